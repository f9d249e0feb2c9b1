/- A machine of values and its tie to the model, and runs of it: part 2 of 14 (no law of Go is stated here). -/
import Derived.Test.YtigbpkocmklbpaaF1
import Derived.Calls
import Derived.Laws.Sem
import Derived.Laws.Cells
import Derived.Laws.Strings
import Derived.Laws.Entries
set_option linter.unusedVariables false
set_option linter.unusedSimpArgs false
set_option linter.unusedSectionVars false
namespace Go.Vq
section
variable {n : Nat} {E E' : Env} {slots slots' : List V} {objs objs' : List (Option Obj)} {vals vals' : List Value} {H H' : Array Go.Obj}
theorem wipe1_leaf {u : V} (h : u.leaf = true) : (wipe1 u).leaf = true := by cases u <;> first | rfl | exact h
theorem wipe1_nextg (u : V) : (wipe1 u).nextg = u.nextg := by cases u <;> rfl
theorem wipe1_own (u : V) (h : u.own = false) : wipe1 u = u := by cases u <;> first | rfl | simp [V.own] at h
theorem wipe1_gone {u : V} (h : u.own = true) : (wipe1 u) = .gone u.nextg := by cases u <;> first | rfl | simp [V.own] at h
theorem wipe_leaves {v : V} (hf : v.formed) (hl : ∀ u ∈ v.leaves, u.leaf = true) : v.wipe.leaves = v.leaves.map wipe1 :=
  withLeaves_leaves hf (by simp) (by intro u hu; obtain ⟨w, hw, rfl⟩ := List.mem_map.1 hu; exact wipe1_leaf (hl w hw))
theorem refs1_wipe1 (u : V) : ∀ r ∈ (wipe1 u).refs1, r ∈ u.refs1 := by
  intro r hr
  cases u <;> first | exact hr | cases hr
theorem refs_of_leaves {v : V} {ls : List V} (h : v.leaves = ls) : v.refs = ls.flatMap V.refs1 := by rw [V.refs, h]
theorem Core.move (hC : Core n E slots objs vals H) {t : Nat} {v : V} {x : Value} (hv : slots[t]? = some v) (hx : vals[t]? = some x) :
    Core n (E.retag (mv t slots.length)) (slots.set t v.wipe ++ [v]) objs (vals ++ [x]) H := by
  have ht := lt_of_getElem? hv
  have hS := hC.slot t v x hv hx
  have hwl := wipe_leaves hS.formed hS.leafs
  have hk : HomesKept n E slots objs vals H (E.retag (mv t slots.length)) (slots.set t v.wipe ++ [v]) objs (vals ++ [x]) H := by
    intro h u hh hu hp
    cases h with
    | slot s i =>
      have hs : s < slots.length := by
        rcases Nat.lt_or_ge s slots.length with hs | hs
        · exact hs
        · have := ct_slot_big hs hu; subst this; simp [V.nextg] at hp
      have e1 : ct (slots.set t v.wipe ++ [v]) objs (.slot s i) = if s = t then v.wipe.leaves[i]? else ct slots objs (.slot s i) := by
        rw [ct_append_left _ _ _ _ _ (by simpa using hs), ct_set _ _ _ _ _ _ ht]
      have e2 : hd (E.retag (mv t slots.length)) (vals ++ [x]) H (.slot s i) = hd E vals H (.slot s i) := hd_append_left _ _ _ _ _ _ (hC.len ▸ hs)
      by_cases hst : s = t
      · subst hst
        rw [ct_getElem? hv] at hu
        refine ⟨wipe1 u, ?_, by rw [wipe1_nextg]; exact Nat.le_refl _, ?_⟩
        · rw [e1, if_pos rfl, hwl, List.getElem?_map, hu]; rfl
        · by_cases ho : u.own = true
          · right; intro g sz hg; rw [wipe1_gone ho] at hg; cases hg
          · left; rw [wipe1_own u (by simpa using ho)]; exact ⟨rfl, e2⟩
      · exact ⟨u, by rw [e1, if_neg hst]; exact hu, Nat.le_refl _, .inl ⟨rfl, e2⟩⟩
    | obj o i => exact ⟨u, hu, Nat.le_refl _, .inl ⟨rfl, rfl⟩⟩
  have c1 := Env.retag_c1 E (mv t slots.length) H
  refine ⟨by simp [hC.len], by have := hC.real; simp; omega, fun s u y hs hy => ?_, fun o cs ho => ?_, fun b hb => Env.retag_other (hC.fresh b hb), fun s u hs r hr => ?_⟩
  · rcases getElem?_append_one hs with ⟨h1, h2⟩ | ⟨h1, h2⟩
    · have h1' : s < slots.length := by simpa using h1
      rw [List.getElem?_append_left (hC.len ▸ h1')] at hy
      by_cases hst : s = t
      · subst hst
        rw [List.getElem?_set_self ht] at h2; cases h2
        rw [hx] at hy; cases hy
        refine ⟨?_, fun i w z hw hz => ?_⟩
        · by_cases hg : ∃ g, v = .gone g
          · obtain ⟨g, rfl⟩ := hg; trivial
          · exact withLeaves_shape hS.formed (by simp) (by intro u hu; obtain ⟨w, hw, rfl⟩ := List.mem_map.1 hu; exact wipe1_leaf (hS.leafs w hw)) hS.1 fun g e => hg ⟨g, e⟩
        · rw [hwl, List.getElem?_map] at hw
          obtain ⟨u, hu, rfl⟩ := Option.map_eq_some_iff.1 hw
          by_cases ho : u.own = true
          · rw [wipe1_gone ho]; trivial
          · rw [wipe1_own u (by simpa using ho)]
            exact hC.leaf hk c1 rfl hv hx hu hz (fun h => absurd h ho) (fun h => absurd h ho)
      · rw [List.getElem?_set_ne (fun e => hst e.symm)] at h2
        refine ⟨(hC.slot s u y h2 hy).1, fun i w z hw hz => hC.leaf hk c1 rfl h2 hy hw hz (fun _ b hb => ?_) (fun _ b m hb => ?_)⟩
        · exact ⟨by rw [Env.retag_home hb]; simp [mv, hst], rfl⟩
        · exact ⟨by rw [Env.retag_tail hb]; simp [mv, hst], rfl⟩
    · rw [List.length_set] at h1
      subst h1 h2
      rw [hC.len, List.getElem?_append_right (Nat.le_refl _)] at hy
      simp at hy; subst hy
      refine ⟨hS.1, fun i w z hw hz => hC.leaf hk c1 rfl hv hx hw hz (fun _ b hb => ?_) (fun _ b m hb => ?_)⟩
      · exact ⟨by rw [Env.retag_home hb]; simp [mv], rfl⟩
      · exact ⟨by rw [Env.retag_tail hb]; simp [mv], rfl⟩
  · refine hC.objKept c1 rfl ho (fun h => ⟨Env.retag_obj h, rfl⟩) (fun _ _ _ _ b hb => ⟨by rw [Env.retag_home hb]; rfl, rfl⟩) (fun _ _ _ _ b m hb => ⟨by rw [Env.retag_tail hb]; rfl, rfl⟩)
  · rcases getElem?_append_one hs with ⟨h1, h2⟩ | ⟨h1, h2⟩
    · by_cases hst : s = t
      · subst hst
        rw [List.getElem?_set_self ht] at h2; cases h2
        rw [refs_of_leaves hwl, List.mem_flatMap] at hr
        obtain ⟨w, hw, hr⟩ := hr
        obtain ⟨u, hu, rfl⟩ := List.mem_map.1 hw
        have := hC.refs s v hv r (List.mem_flatMap.2 ⟨u, hu, refs1_wipe1 u r hr⟩)
        exact ⟨this.1, hk.bound this⟩
      · rw [List.getElem?_set_ne (fun e => hst e.symm)] at h2
        have := hC.refs s u h2 r hr
        exact ⟨this.1, hk.bound this⟩
    · subst h2
      have := hC.refs t u hv r hr
      exact ⟨this.1, hk.bound this⟩
theorem regen1_leaf {o v w : V} (h : regen1 o v = some w) (hl : v.leaf = true) : w.leaf = true := by
  cases v <;> simp only [regen1] at h <;> first
    | (cases h; rfl)
    | (split at h <;> first | (cases h; first | rfl | exact hl) | cases h)
theorem regens_some : ∀ (olds news ls : List V), regens olds news = some ls → ls.length = news.length ∧
    (∀ i v, news[i]? = some v → ∃ w, ls[i]? = some w ∧ regen1 (olds.getD i (.gone 0)) v = some w) ∧ ∀ i u, olds[i]? = some u → news.length ≤ i → u.nextg = 0
  | olds, [], ls, h => by
    simp only [regens] at h
    split at h
    · rename_i hall
      cases h
      refine ⟨rfl, fun i v h => by simp at h, fun i u hu _ => ?_⟩
      have := List.all_eq_true.1 hall u (List.mem_of_getElem? hu)
      simpa using this
    · cases h
  | [], m :: ns, ls, h => by
    simp only [regens, Option.bind_eq_bind, Option.pure_def] at h
    obtain ⟨w, hw, h⟩ := Option.bind_eq_some_iff.1 h
    obtain ⟨ws, hws, h⟩ := Option.bind_eq_some_iff.1 h
    cases h
    obtain ⟨i1, i2, i3⟩ := regens_some [] ns ws hws
    refine ⟨by simp [i1], fun i v hv => ?_, fun i u hu _ => by simp at hu⟩
    cases i with
    | zero => simp at hv; subst hv; exact ⟨w, rfl, hw⟩
    | succ i => obtain ⟨z, z1, z2⟩ := i2 i v (by simpa using hv); exact ⟨z, by simpa using z1, by simpa using z2⟩
  | o :: os, m :: ns, ls, h => by
    simp only [regens, Option.bind_eq_bind, Option.pure_def] at h
    obtain ⟨w, hw, h⟩ := Option.bind_eq_some_iff.1 h
    obtain ⟨ws, hws, h⟩ := Option.bind_eq_some_iff.1 h
    cases h
    obtain ⟨i1, i2, i3⟩ := regens_some os ns ws hws
    refine ⟨by simp [i1], fun i v hv => ?_, fun i u hu hle => ?_⟩
    · cases i with
      | zero => simp at hv; subst hv; exact ⟨w, rfl, by simpa using hw⟩
      | succ i => obtain ⟨z, z1, z2⟩ := i2 i v (by simpa using hv); exact ⟨z, by simpa using z1, by simpa using z2⟩
    · cases i with
      | zero => simp at hle
      | succ i => exact i3 i u (by simpa using hu) (by simpa using hle)
theorem regen1_next {o v w : V} (h : regen1 o v = some w) (hp : 0 < o.nextg) : o.nextg ≤ w.nextg ∧ ∀ g sz, w.gen? = some (g, sz) → o.nextg ≤ g := by
  cases v <;> simp only [regen1] at h <;> first
    | (cases h; refine ⟨by simp [V.nextg], fun g sz hg => ?_⟩; simp only [V.gen?, Option.some.injEq, Prod.mk.injEq, reduceCtorEq] at hg <;> omega)
    | (rw [if_neg (by omega)] at h; first
        | cases h; done
        | (cases h; refine ⟨by simp [V.nextg], fun g sz hg => ?_⟩; simp only [V.gen?, Option.some.injEq, Prod.mk.injEq] at hg; omega))
theorem regen1_refs {o v w : V} (h : regen1 o v = some w) : w.refs1 = v.refs1 := by
  cases v <;> simp only [regen1] at h <;> first
    | (cases h; rfl)
    | (split at h <;> first | (cases h; rfl) | cases h)
theorem regen1_rel {h : Home} {o v w : V} {x : Value} (hr : regen1 o v = some w) (hv : RelV E slots objs vals H h v x) : RelV E slots objs vals H h w x := by
  cases v with
  | xsl g sz es => simp only [regen1] at hr; cases hr; exact hv
  | fsl g sz es => simp only [regen1] at hr; cases hr; exact hv
  | isl g sz es =>
    simp only [regen1] at hr; cases hr
    simp only [RelV] at hv ⊢
    cases hv with
    | isl _ _ _ a cap xs hc ha hsp hz hx h => exact .isl _ _ _ a cap xs hc ha hsp hz hx h
  | gone g => simp only [regen1] at hr; cases hr; trivial
  | nilS sz =>
    simp only [regen1] at hr
    split at hr
    · cases hr; exact hv
    · cases hr
      simp only [RelV] at hv
      cases hv
      exact ⟨none, 0, rfl, Nat.le_refl _, fun _ => rfl, fun _ h => by simp at h, fun h => absurd rfl h, fun e h => by simp at h, fun i e j v h => by simp at h⟩
  | _ =>
    simp only [regen1] at hr
    split at hr
    · cases hr; exact hv
    · cases hr
theorem Core.put {v : V} {x : Value} (hC : Core n E (slots ++ [v]) objs (vals ++ [x]) H) (hn : n ≤ slots.length) {d : Nat} (hd' : d < n) {ls : List V}
    (hr : regens (slots.getD d (.gone 0)).leaves v.leaves = some ls) :
    Core n (E.retag (mv slots.length d)) (slots.set d (v.withLeaves ls)) objs (vals.set d x) H := by
  have hl : slots.length = vals.length := by have := hC.len; simpa using this
  have hd : d < slots.length := by omega
  obtain ⟨old, hold⟩ := exists_getElem? hd
  rw [getD_of_getElem? hold] at hr
  obtain ⟨r1, r2, r3⟩ := regens_some _ _ _ hr
  have hvN : (slots ++ [v])[slots.length]? = some v := by simp
  have hxN : (vals ++ [x])[slots.length]? = some x := by rw [hl]; simp
  have hS := hC.slot _ v x hvN hxN
  have hlf : ∀ w ∈ ls, w.leaf = true := by
    intro w hw
    obtain ⟨i, hi, rfl⟩ := List.getElem_of_mem hw
    obtain ⟨u, hu⟩ := exists_getElem? (l := v.leaves) (i := i) (by omega)
    obtain ⟨z, z1, z2⟩ := r2 i u hu
    rw [List.getElem?_eq_getElem hi] at z1; cases z1
    exact regen1_leaf z2 (hS.leafs u (List.mem_of_getElem? hu))
  have hwl : (v.withLeaves ls).leaves = ls := withLeaves_leaves hS.formed r1 hlf
  have hk : HomesKept n E (slots ++ [v]) objs (vals ++ [x]) H (E.retag (mv slots.length d)) (slots.set d (v.withLeaves ls)) objs (vals.set d x) H := by
    intro h u hh hu hp
    cases h with
    | slot s i =>
      have hs : s < slots.length := by have := hh s i rfl; omega
      rw [ct_append_left _ _ _ _ _ hs] at hu
      have e1 := ct_set slots objs d (v.withLeaves ls) s i hd
      by_cases hsd : s = d
      · subst hsd
        rw [ct_getElem? hold] at hu
        rw [if_pos rfl, hwl] at e1
        rcases Nat.lt_or_ge i ls.length with hi | hi
        · obtain ⟨w', hw'⟩ := exists_getElem? (l := v.leaves) (i := i) (by omega)
          obtain ⟨w, w1, w2⟩ := r2 i w' hw'
          rw [getD_of_getElem? hu] at w2
          have := regen1_next w2 hp
          exact ⟨w, by rw [e1, w1], this.1, .inr this.2⟩
        · have := r3 i u hu (by omega); omega
      · rw [if_neg hsd] at e1
        refine ⟨u, by rw [e1]; exact hu, Nat.le_refl _, .inl ⟨rfl, ?_⟩⟩
        rw [hd_append_left _ _ _ _ _ _ (hl ▸ hs), hd_set _ _ _ _ _ _ _ (hl ▸ hd), if_neg hsd]
        rfl
    | obj o i => exact ⟨u, hu, Nat.le_refl _, .inl ⟨rfl, rfl⟩⟩
  have c1 := Env.retag_c1 E (mv slots.length d) H
  have hvr : ∀ r ∈ (v.withLeaves ls).refs, r ∈ v.refs := by
    intro r hr'
    rw [refs_of_leaves hwl, List.mem_flatMap] at hr'
    obtain ⟨w, hw, hr'⟩ := hr'
    obtain ⟨i, hi, rfl⟩ := List.getElem_of_mem hw
    obtain ⟨u, hu⟩ := exists_getElem? (l := v.leaves) (i := i) (by omega)
    obtain ⟨z, z1, z2⟩ := r2 i u hu
    rw [List.getElem?_eq_getElem hi] at z1; cases z1
    rw [regen1_refs z2] at hr'
    exact mem_refs hu hr'
  refine ⟨by simp [hl], by simpa using hn, fun s u y hs hy => ?_, fun o cs ho => ?_, fun b hb => Env.retag_other (hC.fresh b hb), fun s u hs r hr' => ?_⟩
  · by_cases hsd : s = d
    · subst hsd
      rw [List.getElem?_set_self hd] at hs; cases hs
      rw [List.getElem?_set_self (hl ▸ hd)] at hy; cases hy
      refine ⟨?_, fun i w z hw hz => ?_⟩
      · by_cases hg : ∃ g, v = .gone g
        · obtain ⟨g, rfl⟩ := hg
          obtain ⟨w, w1, w2⟩ := r2 0 (.gone g) rfl
          simp only [regen1] at w2
          cases ls with
          | nil => simp at w1
          | cons l ls => simp at w1; subst w1; cases w2; trivial
        · exact withLeaves_shape hS.formed r1 hlf hS.1 fun g e => hg ⟨g, e⟩
      · rw [hwl] at hw
        obtain ⟨u, hu⟩ := exists_getElem? (l := v.leaves) (i := i) (by have := lt_of_getElem? hw; omega)
        obtain ⟨w', w1, w2⟩ := r2 i u hu
        rw [hw] at w1; cases w1
        refine regen1_rel w2 (hC.leaf hk c1 rfl hvN hxN hu hz (fun _ b hb => ?_) (fun _ b m hb => ?_))
        · exact ⟨by rw [Env.retag_home hb]; simp [mv], rfl⟩
        · exact ⟨by rw [Env.retag_tail hb]; simp [mv], rfl⟩
    · rw [List.getElem?_set_ne (fun e => hsd e.symm)] at hs hy
      have hs1 := lt_of_getElem? hs
      have hs' : (slots ++ [v])[s]? = some u := by rw [List.getElem?_append_left hs1]; exact hs
      have hy' : (vals ++ [x])[s]? = some y := by rw [List.getElem?_append_left (hl ▸ hs1)]; exact hy
      refine ⟨(hC.slot s u y hs' hy').1, fun i w z hw hz => hC.leaf hk c1 rfl hs' hy' hw hz (fun _ b hb => ?_) (fun _ b m hb => ?_)⟩
      · exact ⟨by rw [Env.retag_home hb]; simp only [mv]; rw [if_neg (by omega)], rfl⟩
      · exact ⟨by rw [Env.retag_tail hb]; simp only [mv]; rw [if_neg (by omega)], rfl⟩
  · refine hC.objKept c1 rfl ho (fun h => ⟨Env.retag_obj h, rfl⟩) (fun _ _ _ _ b hb => ⟨by rw [Env.retag_home hb]; rfl, rfl⟩) (fun _ _ _ _ b m hb => ⟨by rw [Env.retag_tail hb]; rfl, rfl⟩)
  · by_cases hsd : s = d
    · subst hsd
      rw [List.getElem?_set_self hd] at hs; cases hs
      have := hC.refs _ v hvN r (hvr r hr')
      exact ⟨this.1, hk.bound this⟩
    · rw [List.getElem?_set_ne (fun e => hsd e.symm)] at hs
      have hs' : (slots ++ [v])[s]? = some u := by rw [List.getElem?_append_left (lt_of_getElem? hs)]; exact hs
      have := hC.refs s u hs' r hr'
      exact ⟨this.1, hk.bound this⟩
def setSlots (slots : List V) : Home → V → List V
  | .slot s off, u => slots.set s ((slots.getD s (.gone 0)).withLeaves ((slots.getD s (.gone 0)).leaves.set off u))
  | .obj .., _ => slots
def setObjs' (objs : List (Option Obj)) : Home → V → List (Option Obj)
  | .slot .., _ => objs
  | .obj o off, u => match objs.getD o none with
    | some (.cells cs) => objs.set o (some (.cells (cs.set off u)))
    | _ => objs
theorem alive_set {objs : List (Option Obj)} {o i : Nat} {ob : Obj} (h : alive objs o) : alive (objs.set i (some ob)) o := by
  obtain ⟨x, hx⟩ := h
  by_cases hi : i = o
  · subst hi; exact ⟨ob, by rw [List.getElem?_set_self (lt_of_getElem? hx)]⟩
  · exact ⟨x, by rw [List.getElem?_set_ne hi]; exact hx⟩
theorem alive_setObjs' {objs : List (Option Obj)} {o : Nat} {hh : Home} {u : V} (h : alive objs o) : alive (setObjs' objs hh u) o := by
  unfold setObjs'
  split
  · exact h
  · split
    · exact alive_set h
    · exact h
theorem mem_set_refs {ls : List V} {off : Nat} {u' : V} (hu : u'.refs1 = []) {r : Home × Nat} (h : r ∈ (ls.set off u').flatMap V.refs1) : r ∈ ls.flatMap V.refs1 := by
  obtain ⟨w, hw, hr⟩ := List.mem_flatMap.1 h
  rcases List.mem_or_eq_of_mem_set hw with h1 | h1
  · exact List.mem_flatMap.2 ⟨w, h1, hr⟩
  · subst h1; rw [hu] at hr; cases hr
theorem Core.turn (hC : Core n E slots objs vals H) {h : Home} {u u' : V} (hu : ct slots objs h = some u) (hg : ∀ g, u ≠ .gone g)
    (hin : u'.leaf = true ∧ u'.refs1 = [] ∧ (∀ o off, h = .obj o off → u'.inObj = true))
    (hng : (∀ t i, h = .slot t i → t < n) → u.nextg ≤ u'.nextg ∧ (u'.gen? = u.gen? ∨ ∀ g sz, u'.gen? = some (g, sz) → u.nextg ≤ g))
    (ca : E'.addr = E.addr) (c1 : ∀ b i, E.imm b i → E'.imm b i) (c2 : ∀ h' w, h' ≠ h → ct slots objs h' = some w → w.own = true → ∀ b, E.tag b = .home h' → E'.tag b = .home h') (c2' : ∀ h' w, h' ≠ h → ct slots objs h' = some w → w.own = true → ∀ b m, E.tag b = .tail h' m → E'.tag b = .tail h' m)
    (c0 : ∀ b o, E.tag b = .obj o → E'.tag b = .obj o) (cf : ∀ b, E.tag b = .other → E'.tag b = .other)
    (hrel : ∀ y, hd E vals H h = some y → RelV E slots objs vals H h u y → RelV E' (setSlots slots h u') (setObjs' objs h u') vals H h u' y) :
    Core n E' (setSlots slots h u') (setObjs' objs h u') vals H := by
  have c1' : ∀ b i, E.imm b i → E'.imm b i ∧ cellAt H b i = cellAt H b i := fun b i h => ⟨c1 b i h, rfl⟩
  have hdE : ∀ h', hd E' vals H h' = hd E vals H h' := by intro h'; cases h' <;> simp [hd, ca]
  cases h with
  | slot s off =>
    have hs : s < slots.length := by
      rcases Nat.lt_or_ge s slots.length with hs | hs
      · exact hs
      · exact absurd (ct_slot_big hs hu) (hg 0)
    obtain ⟨v, hv⟩ := exists_getElem? hs
    obtain ⟨x, hx⟩ := exists_getElem? (l := vals) (i := s) (hC.len ▸ hs)
    have hS := hC.slot s v x hv hx
    have e0 : slots.getD s (.gone 0) = v := getD_of_getElem? hv
    simp only [setSlots, setObjs', e0] at hrel ⊢
    rw [ct_getElem? hv] at hu
    have hoff := lt_of_getElem? hu
    have hlf : ∀ w ∈ v.leaves.set off u', w.leaf = true := by
      intro w hw
      rcases List.mem_or_eq_of_mem_set hw with h1 | h1
      · exact hS.leafs w h1
      · subst h1; exact hin.1
    have hvg : ∀ g, v ≠ .gone g := by
      rintro g rfl
      simp at hoff; subst hoff; simp at hu; exact hg g hu.symm
    have hwl : (v.withLeaves (v.leaves.set off u')).leaves = v.leaves.set off u' := withLeaves_leaves hS.formed (by simp) hlf
    have hk : HomesKept n E slots objs vals H E' (slots.set s (v.withLeaves (v.leaves.set off u'))) objs vals H := by
      intro h w hh hw hp
      cases h with
      | slot s' i =>
        have e1 := ct_set slots objs s (v.withLeaves (v.leaves.set off u')) s' i hs
        by_cases hss : s' = s
        · subst hss
          rw [if_pos rfl, hwl] at e1
          rw [ct_getElem? hv] at hw
          by_cases hi : i = off
          · subst hi
            rw [hu] at hw; cases hw
            have := hng (fun t j e => by cases e; exact hh _ _ rfl)
            refine ⟨u', by rw [e1, List.getElem?_set_self hoff], this.1, ?_⟩
            rcases this.2 with h2 | h2
            · exact .inl ⟨h2, hdE _⟩
            · exact .inr h2
          · exact ⟨w, by rw [e1, List.getElem?_set_ne (fun e => hi e.symm)]; exact hw, Nat.le_refl _, .inl ⟨rfl, hdE _⟩⟩
        · rw [if_neg hss] at e1
          exact ⟨w, by rw [e1]; exact hw, Nat.le_refl _, .inl ⟨rfl, hdE _⟩⟩
      | obj o i => exact ⟨w, hw, Nat.le_refl _, .inl ⟨rfl, hdE _⟩⟩
    refine ⟨by simp [hC.len], by simpa using hC.real, fun s' w y hs' hy => ?_, fun o cs ho => ?_, fun b hb => cf b (hC.fresh b hb), fun s' w hs' r hr => ?_⟩
    · by_cases hss : s' = s
      · subst hss
        rw [List.getElem?_set_self hs] at hs'; cases hs'
        rw [hx] at hy; cases hy
        refine ⟨withLeaves_shape hS.formed (by simp) hlf hS.1 hvg, fun i w z hw hz => ?_⟩
        rw [hwl] at hw
        by_cases hi : i = off
        · subst hi
          rw [List.getElem?_set_self hoff] at hw; cases hw
          exact hrel z (by simp only [hd, hx, Option.bind_some]; exact hz) (hS.2 _ u z hu hz)
        · rw [List.getElem?_set_ne (fun e => hi e.symm)] at hw
          exact hC.leaf hk c1' ca hv hx hw hz (fun ho b hb => ⟨c2 (.slot s' i) w (by simp [hi]) (by rw [ct_getElem? hv]; exact hw) ho b hb, rfl⟩) (fun ho b m hb => ⟨c2' (.slot s' i) w (by simp [hi]) (by rw [ct_getElem? hv]; exact hw) ho b m hb, rfl⟩)
      · rw [List.getElem?_set_ne (fun e => hss e.symm)] at hs'
        exact ⟨(hC.slot s' w y hs' hy).1, fun i w' z hw hz => hC.leaf hk c1' ca hs' hy hw hz (fun ho b hb => ⟨c2 (.slot s' i) w' (by simp [hss]) (by rw [ct_getElem? hs']; exact hw) ho b hb, rfl⟩) (fun ho b m hb => ⟨c2' (.slot s' i) w' (by simp [hss]) (by rw [ct_getElem? hs']; exact hw) ho b m hb, rfl⟩)⟩
    · exact hC.objKept c1' ca ho (fun h => ⟨c0 _ _ h, rfl⟩) (fun i u hi ho' b hb => ⟨c2 (.obj o i) u (by simp) (by simp only [ct, ho]; exact hi) ho' b hb, rfl⟩) (fun i u hi ho' b m hb => ⟨c2' (.obj o i) u (by simp) (by simp only [ct, ho]; exact hi) ho' b m hb, rfl⟩)
    · by_cases hss : s' = s
      · subst hss
        rw [List.getElem?_set_self hs] at hs'; cases hs'
        rw [refs_of_leaves hwl] at hr
        have := hC.refs _ v hv r (mem_set_refs hin.2.1 hr)
        exact ⟨this.1, hk.bound this⟩
      · rw [List.getElem?_set_ne (fun e => hss e.symm)] at hs'
        have := hC.refs s' w hs' r hr
        exact ⟨this.1, hk.bound this⟩
  | obj o off =>
    simp only [ct] at hu
    split at hu
    · rename_i cs ho
      have e0 : objs.getD o none = some (.cells cs) := getD_of_getElem? ho
      have hol := lt_of_getElem? ho
      simp only [setSlots, setObjs', e0] at hrel ⊢
      have hoff := lt_of_getElem? hu
      obtain ⟨arr, T, f, h1, h2, h3, h4, h5, h6⟩ := hC.obj o cs ho
      have hk : HomesKept n E slots objs vals H E' slots (objs.set o (some (.cells (cs.set off u')))) vals H := by
        intro h w hh hw hp
        cases h with
        | slot s' i => exact ⟨w, hw, Nat.le_refl _, .inl ⟨rfl, hdE _⟩⟩
        | obj o' i =>
          by_cases hoo : o' = o
          · subst hoo
            simp only [ct, ho] at hw
            simp only [ct, List.getElem?_set_self hol]
            by_cases hi : i = off
            · subst hi
              rw [hu] at hw; cases hw
              have := hng (fun t j e => by cases e)
              refine ⟨u', by rw [List.getElem?_set_self hoff], this.1, ?_⟩
              rcases this.2 with h2 | h2
              · exact .inl ⟨h2, hdE _⟩
              · exact .inr h2
            · exact ⟨w, by rw [List.getElem?_set_ne (fun e => hi e.symm)]; exact hw, Nat.le_refl _, .inl ⟨rfl, hdE _⟩⟩
          · simp only [ct] at hw
            refine ⟨w, ?_, Nat.le_refl _, .inl ⟨rfl, hdE _⟩⟩
            simp only [ct, List.getElem?_set_ne (fun e => hoo e.symm)]
            exact hw
      refine ⟨hC.len, hC.real, fun s' w y hs' hy => ?_, fun o' cs' ho' => ?_, fun b hb => cf b (hC.fresh b hb), fun s' w hs' r hr => ?_⟩
      · exact ⟨(hC.slot s' w y hs' hy).1, fun i w' z hw hz => hC.leaf hk c1' ca hs' hy hw hz (fun ho b hb => ⟨c2 (.slot s' i) w' (by simp) (by rw [ct_getElem? hs']; exact hw) ho b hb, rfl⟩) (fun ho b m hb => ⟨c2' (.slot s' i) w' (by simp) (by rw [ct_getElem? hs']; exact hw) ho b m hb, rfl⟩)⟩
      · by_cases hoo : o' = o
        · subst hoo
          rw [List.getElem?_set_self hol] at ho'; cases ho'
          refine ⟨arr, T, f, by rw [ca]; exact h1, by rw [ca]; exact c0 _ _ h2, by simpa using h3, h4, fun i w z hw hz => ?_, fun w hw => ?_⟩
          · by_cases hi : i = off
            · subst hi
              rw [List.getElem?_set_self hoff] at hw; cases hw
              exact hrel z (by simp only [hd, cellAt, h1]; exact hz) (h5 _ u z hu hz)
            · rw [List.getElem?_set_ne (fun e => hi e.symm)] at hw
              refine (h5 i w z hw hz).move c1' (fun ho' b hb => ⟨c2 (.obj o' i) w (by simp [hi]) (by simp only [ct, ho]; exact hw) ho' b hb, rfl⟩) (fun ho' b m hb => ⟨c2' (.obj o' i) w (by simp [hi]) (by simp only [ct, ho]; exact hw) ho' b m hb, rfl⟩) (fun _ _ h => ⟨by rw [ca], alive_set h⟩) (fun _ _ _ _ h => ⟨by rw [ca], alive_set h⟩) fun r hr => ?_
              rw [V.inObj_refs1 (h6 w (List.mem_of_getElem? hw))] at hr; cases hr
          · rcases List.mem_or_eq_of_mem_set hw with h1 | h1
            · exact h6 w h1
            · subst h1; exact hin.2.2 _ _ rfl
        · rw [List.getElem?_set_ne (fun e => hoo e.symm)] at ho'
          exact hC.objKept c1' ca ho' (fun h => ⟨c0 _ _ h, rfl⟩) (fun i u hi ho2 b hb => ⟨c2 (.obj o' i) u (by simp [hoo]) (by simp only [ct, ho']; exact hi) ho2 b hb, rfl⟩) (fun i u hi ho2 b m hb => ⟨c2' (.obj o' i) u (by simp [hoo]) (by simp only [ct, ho']; exact hi) ho2 b m hb, rfl⟩)
      · have := hC.refs s' w hs' r hr
        exact ⟨this.1, hk.bound this⟩
    · cases hu
theorem Core.at_ (hC : Core n E slots objs vals H) {h : Home} {u : V} (hu : ct slots objs h = some u) (hg : ∀ g, u ≠ .gone g) :
    ∃ y, hd E vals H h = some y ∧ RelV E slots objs vals H h u y := by
  cases h with
  | slot s off =>
    have hs : s < slots.length := by
      rcases Nat.lt_or_ge s slots.length with hs | hs
      · exact hs
      · exact absurd (ct_slot_big hs hu) (hg 0)
    obtain ⟨v, hv⟩ := exists_getElem? hs
    obtain ⟨x, hx⟩ := exists_getElem? (l := vals) (i := s) (hC.len ▸ hs)
    have hS := hC.slot s v x hv hx
    rw [ct_getElem? hv] at hu
    have hoff := lt_of_getElem? hu
    have hvg : ∀ g, v ≠ .gone g := by
      rintro g rfl
      simp at hoff; subst hoff; simp at hu; exact hg g hu.symm
    obtain ⟨y, hy⟩ := exists_getElem? (l := vleaves x) (i := off) (by rw [← shape_len hS.1 hvg]; exact hoff)
    exact ⟨y, by simp only [hd, hx, Option.bind_some]; exact hy, hS.2 _ u y hu hy⟩
  | obj o off =>
    simp only [ct] at hu
    split at hu
    · rename_i cs ho
      obtain ⟨arr, T, f, h1, h2, h3, h4, h5, h6⟩ := hC.obj o cs ho
      have hoff := lt_of_getElem? hu
      have hoff' : off < arr.size := by omega
      exact ⟨arr[off], by simp [hd, cellAt, h1, hoff'], h5 _ u _ hu (by simp [hoff'])⟩
    · cases hu
theorem Elems.nil (imm : Nat → Nat → Prop) (H : Array Go.Obj) (a : Option Addr) (sz : Nat) : Elems imm H a sz [] := ⟨fun e h => by simp at h, fun i e j v h => by simp at h⟩
theorem Elems.sub {imm : Nat → Nat → Prop} {ad : Addr} {sz off len : Nat} {es : List V} (h : Elems imm H (some ad) sz es) :
    Elems imm H (some ⟨ad.block, ad.off + off * sz, none⟩) sz ((es.drop off).take len) := by
  refine ⟨fun e he => h.1 e (List.mem_of_mem_drop (List.mem_of_mem_take he)), fun i e j v hi hj => ?_⟩
  rw [List.getElem?_take] at hi
  split at hi
  · rw [List.getElem?_drop] at hi
    obtain ⟨ad', x, e1, e2, e3⟩ := h.2 _ e j v hi hj
    cases e1
    refine ⟨_, x, rfl, ?_, e3⟩
    rw [← e2]; congr 1
    simp only [Nat.add_mul]; omega
  · cases hi
theorem isl_of {imm : Nat → Nat → Prop} {a : Option Addr} {sz g cap : Nat} {es : List V} (h : Elems imm H a sz es) (hc : es.length ≤ cap) (ha : a = none → cap = 0) (hsp : ∀ ad, a = some ad → cap ≠ 0 → ad.spot = none)
    (hi : ∀ (ad : Addr) (k : Nat), a = some ad → k < es.length * sz → imm ad.block (ad.off + k)) : RelI imm H (.isl g sz es) (.slice a es.length cap) := by
  cases a with
  | none =>
    have : es = [] := by have := ha rfl; cases es with | nil => rfl | cons => simp at hc; omega
    subst this
    exact .isl g sz [] none cap (fun _ _ => default) hc ha hsp h.1 (fun _ _ _ _ _ h => by cases h) (fun _ _ _ _ h => by simp at h)
  | some ad =>
    refine .isl g sz es (some ad) cap (fun i j => (cellAt H ad.block (ad.off + (i * sz + j))).getD default) hc ha hsp h.1 ?_ ?_
    · intro ad' i e j v e0 h1 h2
      cases e0
      obtain ⟨ad', x, e1, e2, e3⟩ := h.2 i e j v h1 h2
      cases e1
      refine ⟨hi ad _ rfl ?_, by rw [e2]; rfl⟩
      have := lt_of_getElem? h1
      have hj := lt_of_getElem? h2
      rw [(h.1 e (List.mem_of_getElem? h1)).1] at hj
      calc i * sz + j < i * sz + sz := by omega
        _ = (i + 1) * sz := by rw [Nat.add_mul, Nat.one_mul]
        _ ≤ es.length * sz := Nat.mul_le_mul_right _ this
    · intro i e j v h1 h2
      obtain ⟨ad', x, e1, e2, e3⟩ := h.2 i e j v h1 h2
      cases e1
      rw [e2]; exact e3
theorem isl_elems {imm : Nat → Nat → Prop} {g sz : Nat} {es : List V} {x : Value} (h : RelI imm H (.isl g sz es) x) : ∃ a cap, x = .slice a es.length cap ∧ es.length ≤ cap ∧ (a = none → cap = 0) ∧ (∀ ad, a = some ad → cap ≠ 0 → ad.spot = none) ∧
    Elems imm H a sz es ∧ ∀ (ad : Addr) (i : Nat) (e : V) (j : Nat), a = some ad → es[i]? = some e → j < e.cells.length → imm ad.block (ad.off + (i * sz + j)) := by
  cases h with
  | isl _ _ _ a cap xs hc ha hsp hz hx h =>
    refine ⟨a, cap, rfl, hc, ha, hsp, ⟨hz, fun i e j v h1 h2 => ?_⟩, fun ad i e j e0 h1 h2 => ?_⟩
    · cases a with
      | none => have := ha rfl; have := lt_of_getElem? h1; omega
      | some ad => exact ⟨ad, xs i j, rfl, (hx ad i e j v rfl h1 h2).2, h i e j v h1 h2⟩
    · obtain ⟨v, hv⟩ := exists_getElem? h2
      exact (hx ad i e j v e0 h1 hv).1
end
end Go.Vq
namespace Go.Vq
section
variable {σ σ' : St}
theorem Prog.run_ite (c : Prop) [Decidable c] (p q : Prog) : (if c then p else q).run σ = if c then p.run σ else q.run σ := by split <;> rfl
theorem gHome_run {h : Home} {k : V → Prog} (hr : (gHome h k).run σ = some σ') : ∃ v, ct σ.slots σ.objs h = some v ∧ (k v).run σ = some σ' := by
  cases h with
  | slot s off =>
    simp only [gHome, Prog.run, St.slot] at hr
    split at hr
    · rename_i x hx; exact ⟨x, hx, hr⟩
    · cases hr
  | obj o off =>
    simp only [gHome, Prog.run, St.obj] at hr
    split at hr
    · rename_i cs ho
      split at hr
      · rename_i x hx
        refine ⟨x, ?_, hr⟩
        have : σ.objs[o]? = some (some (.cells cs)) := by
          simp only [List.getD] at ho
          cases h : σ.objs[o]? with
          | none => simp [h] at ho
          | some y => simp [h] at ho; rw [ho]
        simp only [ct, this]; exact hx
      · cases hr
    · cases hr
theorem sHome_run {h : Home} {x : V} {k : Prog} (hr : (sHome h x k).run σ = some σ') :
    (∃ u, ct σ.slots σ.objs h = some u) ∧ k.run ⟨setSlots σ.slots h x, setObjs' σ.objs h x⟩ = some σ' := by
  cases h with
  | slot s off =>
    simp only [sHome, Prog.run] at hr
    rw [Prog.run_ite] at hr
    split at hr
    · rename_i hlt
      exact ⟨⟨_, List.getElem?_eq_getElem hlt⟩, hr⟩
    · cases hr
  | obj o off =>
    simp only [sHome, Prog.run, St.obj] at hr
    split at hr
    · rename_i cs ho
      rw [Prog.run_ite] at hr
      split at hr
      · rename_i hlt
        have h1 : σ.objs[o]? = some (some (.cells cs)) := by
          simp only [List.getD] at ho
          cases h : σ.objs[o]? with
          | none => simp [h] at ho
          | some y => simp [h] at ho; rw [ho]
        refine ⟨⟨cs[off], by simp only [ct, h1]; exact List.getElem?_eq_getElem hlt⟩, ?_⟩
        simp only [setSlots, setObjs', ho]
        simp only [Prog.run] at hr
        rw [if_pos (lt_of_getElem? h1)] at hr
        exact hr
      · cases hr
    · cases hr
theorem gElems_run {h : Home} {g sz : Nat} {k : Bool → List V → Prog} (h0 : (gElems h g sz k).run σ = some σ') :
    ∃ u own es, ct σ.slots σ.objs h = some u ∧ ((u = .xsl g sz es ∧ own = true) ∨ ((u = .isl g sz es ∨ u = .fsl g sz es) ∧ own = false)) ∧ (k own es).run σ = some σ' := by
  obtain ⟨v, hv, hr⟩ := gHome_run h0
  split at hr
  · rw [Prog.run_ite] at hr
    split at hr
    · rename_i hgs; obtain ⟨rfl, rfl⟩ := hgs; exact ⟨_, true, _, hv, .inl ⟨rfl, rfl⟩, hr⟩
    · cases hr
  · rw [Prog.run_ite] at hr
    split at hr
    · rename_i hgs; obtain ⟨rfl, rfl⟩ := hgs; exact ⟨_, false, _, hv, .inr ⟨.inl rfl, rfl⟩, hr⟩
    · cases hr
  · rw [Prog.run_ite] at hr
    split at hr
    · rename_i hgs; obtain ⟨rfl, rfl⟩ := hgs; exact ⟨_, false, _, hv, .inr ⟨.inr rfl, rfl⟩, hr⟩
    · cases hr
  · cases hr
theorem put_run {d : Nat} {v : V} {k : Prog} (hr : (put d v k).run σ = some σ') :
    ∃ ls, regens (σ.slots.getD d (.gone 0)).leaves v.leaves = some ls ∧ k.run (σ.setS d (v.withLeaves ls)) = some σ' := by
  simp only [put, Prog.run, St.slot] at hr
  split at hr
  · rename_i ls h; exact ⟨ls, h, hr⟩
  · cases hr
end
structure Grow (base : Nat) (E : Env) (H : Array Go.Obj) (E' : Env) (H' : Array Go.Obj) : Prop where
  size : H.size ≤ H'.size
  imm : ∀ b i, E.imm b i → E'.imm b i ∧ cellAt H' b i = cellAt H b i
  other : ∀ b, b < H.size → E.tag b = .other → E'.tag b = .other ∧ H'[b]? = H[b]?
  immT : ∀ b, E.tag b = .imm → E'.tag b = .imm ∧ H'[b]? = H[b]?
  lentT : ∀ b m, E.tag b = .lent m → E'.tag b = .lent m ∧ H'[b]? = H[b]?
  addr : ∀ o, o < base → E'.addr o = E.addr o
theorem Grow.refl (base : Nat) (E : Env) (H : Array Go.Obj) : Grow base E H E H := ⟨Nat.le_refl _, fun _ _ h => ⟨h, rfl⟩, fun _ _ h => ⟨h, rfl⟩, fun _ h => ⟨h, rfl⟩, fun _ _ h => ⟨h, rfl⟩, fun _ _ => rfl⟩
theorem Grow.trans {base : Nat} {E E1 E2 : Env} {H H1 H2 : Array Go.Obj} (h : Grow base E H E1 H1) (h' : Grow base E1 H1 E2 H2) : Grow base E H E2 H2 := by
  refine ⟨Nat.le_trans h.size h'.size, fun b i hi => ?_, fun b hb ho => ?_, fun b hi => ?_, fun b m hi => ?_, fun o ho => (h'.addr o ho).trans (h.addr o ho)⟩
  · have h1 := h.imm b i hi; have h2 := h'.imm b i h1.1; exact ⟨h2.1, h2.2.trans h1.2⟩
  · have h1 := h.other b hb ho; have h2 := h'.other b (Nat.lt_of_lt_of_le hb h.size) h1.1; exact ⟨h2.1, h2.2.trans h1.2⟩
  · have h1 := h.immT b hi; have h2 := h'.immT b h1.1; exact ⟨h2.1, h2.2.trans h1.2⟩
  · have h1 := h.lentT b m hi; have h2 := h'.lentT b m h1.1; exact ⟨h2.1, h2.2.trans h1.2⟩
theorem Grow.retag (base : Nat) (E : Env) (f : Home → Home) (H : Array Go.Obj) : Grow base E H (E.retag f) H :=
  ⟨Nat.le_refl _, Env.retag_c1 E f H, fun _ _ h => ⟨Env.retag_other h, rfl⟩, fun _ h => ⟨Env.retag_immTag h, rfl⟩, fun _ _ h => ⟨by simp [Env.retag, h], rfl⟩, fun _ _ => rfl⟩
section
variable {n base : Nat} {E E' : Env} {σ σ' : St} {hs : List V} {ts xs : List Value} {H H' : Array Go.Obj}
structure CoreS (n : Nat) (E : Env) (σ : St) (hs : List V) (ts xs : List Value) (H : Array Go.Obj) : Prop where
  sl : σ.slots.length = n
  tl : ts.length = n
  core : Core n E (σ.slots ++ hs) σ.objs (ts ++ xs) H
theorem CoreS.hl (hC : CoreS n E σ hs ts xs H) : hs.length = xs.length := by have := hC.core.len; simp [hC.sl, hC.tl] at this; exact this
def ConstOk (v : V) (x : Value) : Prop :=
  (∀ (E : Env) (slots : List V) (objs : List (Option Obj)) (vals : List Value) (H : Array Go.Obj) (s : Nat), SlotRel E slots objs vals H s v x) ∧ v.refs = [] ∧ ∀ u ∈ v.leaves, u.own = false
def OpdOk (ts : List Value) : Opd → Value → Prop
  | .tmp t, x => ts.getD t undef = x
  | .val v, x => ConstOk v x
theorem ct_real (h : σ.slots.length = n) {hh : Home} (hn : ∀ t i, hh = .slot t i → t < n) : ct (σ.slots ++ hs) σ.objs hh = ct σ.slots σ.objs hh := by
  cases hh with
  | slot s i => exact ct_append_left _ _ _ _ _ (h ▸ hn s i rfl)
  | obj o i => rfl
theorem ct_real' (h : σ.slots.length = n) {hh : Home} {u : V} (hu : ct σ.slots σ.objs hh = some u) (hg : ∀ g, u ≠ .gone g) : ct (σ.slots ++ hs) σ.objs hh = some u ∧ ∀ t i, hh = .slot t i → t < n := by
  have hn : ∀ t i, hh = .slot t i → t < n := by
    rintro t i rfl
    rcases Nat.lt_or_ge t n with h1 | h1
    · exact h1
    · exact absurd (ct_slot_big (h ▸ h1) hu) (hg 0)
  exact ⟨by rw [ct_real h hn]; exact hu, hn⟩
theorem CoreS.slotRel (hC : CoreS n E σ hs ts xs H) {t : Nat} (ht : t < n) : SlotRel E (σ.slots ++ hs) σ.objs (ts ++ xs) H t (σ.slot t) (ts.getD t undef) := by
  obtain ⟨v, hv⟩ := exists_getElem? (l := σ.slots) (i := t) (hC.sl ▸ ht)
  obtain ⟨x, hx⟩ := exists_getElem? (l := ts) (i := t) (hC.tl ▸ ht)
  have e1 : σ.slot t = v := getD_of_getElem? hv
  have e2 : ts.getD t undef = x := getD_of_getElem? hx
  rw [e1, e2]
  exact hC.core.slot t v x (by rw [List.getElem?_append_left (hC.sl ▸ ht)]; exact hv) (by rw [List.getElem?_append_left (hC.tl ▸ ht)]; exact hx)
theorem CoreS.slotBig (hC : CoreS n E σ hs ts xs H) {t : Nat} (ht : ¬ t < n) : σ.slot t = .gone 0 := by
  simp only [St.slot, List.getD]
  rw [List.getElem?_eq_none (by have := hC.sl; omega)]; rfl
theorem CoreS.slotRefs (hC : CoreS n E σ hs ts xs H) (t : Nat) : ∀ r ∈ (σ.slot t).refs, (∀ t i, r.1 = .slot t i → t < n) ∧ ∃ u, ct (σ.slots ++ hs) σ.objs r.1 = some u ∧ r.2 < u.nextg := by
  by_cases ht : t < n
  · obtain ⟨v, hv⟩ := exists_getElem? (l := σ.slots) (i := t) (hC.sl ▸ ht)
    have e1 : σ.slot t = v := getD_of_getElem? hv
    rw [e1]
    exact hC.core.refs t v (by rw [List.getElem?_append_left (hC.sl ▸ ht)]; exact hv)
  · rw [hC.slotBig ht]; intro r hr; simp [V.refs, V.refs1] at hr
theorem CoreS.push (hC : CoreS n E σ hs ts xs H) {v : V} {x : Value} (ho : ∀ u ∈ v.leaves, u.own = false) (hS : SlotRel E (σ.slots ++ hs) σ.objs (ts ++ xs) H 0 v x)
    (hr : ∀ r ∈ v.refs, (∀ t i, r.1 = .slot t i → t < n) ∧ ∃ u, ct (σ.slots ++ hs) σ.objs r.1 = some u ∧ r.2 < u.nextg) : CoreS n E σ (hs ++ [v]) ts (xs ++ [x]) H := by
  refine ⟨hC.sl, hC.tl, ?_⟩
  rw [← List.append_assoc, ← List.append_assoc]
  refine hC.core.push ⟨hS.1, fun i u y hu hy => ?_⟩ hr
  have hk := HomesKept.push hC.core v x
  have h1 := ho u (List.mem_of_getElem? hu)
  exact (hS.2 i u y hu hy).move (fun _ _ h => ⟨h, rfl⟩) (fun h => by rw [h1] at h; cases h) (fun h => by rw [h1] at h; cases h) (fun _ _ h => ⟨rfl, h⟩) (fun _ _ _ _ h => ⟨rfl, h⟩) fun r hr' sz hvl => hk.c4 (hr r (mem_refs hu hr')) sz hvl
theorem CoreS.pop {v : V} {x : Value} (hC : CoreS n E σ (hs ++ [v]) ts (xs ++ [x]) H) : CoreS n E σ hs ts xs H := by
  refine ⟨hC.sl, hC.tl, ?_⟩
  have := hC.core
  rw [← List.append_assoc, ← List.append_assoc] at this
  exact this.pop (by simp [hC.sl])
theorem CoreS.pops : ∀ (m : Nat) {vs : List V} {ys : List Value}, vs.length = m → ys.length = m → CoreS n E σ (hs ++ vs) ts (xs ++ ys) H → CoreS n E σ hs ts xs H
  | 0, vs, ys, h1, h2, hC => by
    have e1 : vs = [] := List.eq_nil_of_length_eq_zero h1
    have e2 : ys = [] := List.eq_nil_of_length_eq_zero h2
    subst e1 e2; simpa using hC
  | m + 1, vs, ys, h1, h2, hC => by
    rcases List.eq_nil_or_concat vs with rfl | ⟨us, u, rfl⟩
    · simp at h1
    · rcases List.eq_nil_or_concat ys with rfl | ⟨zs, z, rfl⟩
      · simp at h2
      · simp only [List.concat_eq_append] at hC h1 h2
        rw [← List.append_assoc, ← List.append_assoc] at hC
        exact CoreS.pops m (by simpa using h1) (by simpa using h2) hC.pop
theorem CoreS.put {v : V} {x : Value} (hC : CoreS n E σ (hs ++ [v]) ts (xs ++ [x]) H) {d : Nat} (hd : d < n) {ls : List V} (hr : regens (σ.slots.getD d (.gone 0)).leaves v.leaves = some ls) :
    CoreS n (E.retag (mv (n + hs.length) d)) (σ.setS d (v.withLeaves ls)) hs (ts.set d x) xs H := by
  have h1 := hC.core
  have hl := hC.hl
  rw [← List.append_assoc, ← List.append_assoc] at h1
  have h2 := h1.put (by simp [hC.sl]) hd (ls := ls) (by rw [getD_append_left _ _ _ _ (by rw [hC.sl]; exact hd)]; exact hr)
  refine ⟨by simp [St.setS, hC.sl], by simp [hC.tl], ?_⟩
  rw [show (σ.slots ++ hs).length = n + hs.length from by simp [hC.sl]] at h2
  rw [List.set_append_left _ _ (by rw [hC.sl]; exact hd), List.set_append_left _ _ (by rw [hC.tl]; exact hd)] at h2
  exact h2
theorem CoreS.take (hC : CoreS n E σ hs ts xs H) {t : Nat} (ht : t < n) : CoreS n (E.retag (mv t (n + hs.length))) (σ.setS t (σ.slot t).wipe) (hs ++ [σ.slot t]) ts (xs ++ [ts.getD t undef]) H := by
  obtain ⟨v, hv⟩ := exists_getElem? (l := σ.slots) (i := t) (hC.sl ▸ ht)
  obtain ⟨x, hx⟩ := exists_getElem? (l := ts) (i := t) (hC.tl ▸ ht)
  have e1 : σ.slot t = v := getD_of_getElem? hv
  have e2 : ts.getD t undef = x := getD_of_getElem? hx
  rw [e1, e2]
  have h2 := hC.core.move (t := t) (v := v) (x := x) (by rw [List.getElem?_append_left (hC.sl ▸ ht)]; exact hv) (by rw [List.getElem?_append_left (hC.tl ▸ ht)]; exact hx)
  refine ⟨by simp [St.setS, hC.sl], hC.tl, ?_⟩
  rw [show (σ.slots ++ hs).length = n + hs.length from by simp [hC.sl], List.set_append_left _ _ (by rw [hC.sl]; exact ht)] at h2
  rw [← List.append_assoc, ← List.append_assoc]
  exact h2
end
end Go.Vq
namespace Go.Vq
section
variable {n base : Nat} {E E' : Env} {σ σ' : St} {hs : List V} {ts xs : List Value} {H H' : Array Go.Obj}
theorem layTup_twice : ∀ (vs l1 l2 : List V), partsOk vs → l1.length = (vs.flatMap V.cells).length → (∀ u ∈ l1, u.leaf = true) → l2.length = (vs.flatMap V.cells).length → layTup (layTup vs l1) l2 = layTup vs l2
  | [], _, _, _, _, _, _ => rfl
  | v :: vs, l1, l2, hp, h1, hl, h2 => by
    have hp' : partsOk vs := fun v hv => hp v (List.mem_cons_of_mem _ hv)
    rw [List.flatMap_cons, List.length_append] at h1 h2
    rcases hp v (List.mem_cons_self ..) with hv | ⟨cs, rfl⟩
    · rw [cells_leaf hv] at h1 h2
      cases l1 with
      | nil => simp at h1; omega
      | cons u l1 =>
        cases l2 with
        | nil => simp at h2; omega
        | cons w l2 =>
          rw [layTup_leaf hv, layTup_leaf hv]
          simp only [List.headD_cons, List.drop_succ_cons, List.drop_zero]
          rw [layTup_leaf (hl u (List.mem_cons_self ..))]
          simp only [List.headD_cons, List.drop_succ_cons, List.drop_zero]
          rw [layTup_twice vs l1 l2 hp' (by simp at h1 ⊢; omega) (fun w hw => hl w (List.mem_cons_of_mem _ hw)) (by simp at h2 ⊢; omega)]
    · simp only [V.cells] at h1 h2
      simp only [layTup]
      rw [List.length_take, Nat.min_eq_left (by omega),
        layTup_twice vs _ _ hp' (by rw [List.length_drop]; omega) (fun u hu => hl u (List.mem_of_mem_drop hu)) (by rw [List.length_drop]; omega)]
theorem withLeaves_twice {v : V} {l1 l2 : List V} (hf : v.formed) (h1 : l1.length = v.leaves.length) (hl : ∀ u ∈ l1, u.leaf = true) (h2 : l2.length = v.leaves.length) : (v.withLeaves l1).withLeaves l2 = v.withLeaves l2 := by
  by_cases hv : v.leaf = true
  · rw [withLeaves_leaf hv, withLeaves_leaf hv]
    rw [leaves_leaf hv] at h1 h2
    cases l1 with
    | nil => simp at h1
    | cons u l1 =>
      cases l2 with
      | nil => simp at h2
      | cons w l2 => simp only [List.headD_cons]; rw [withLeaves_leaf (hl u (List.mem_cons_self ..))]; rfl
  · rcases not_leaf_agg hv with ⟨cs, rfl⟩ | ⟨vs, rfl⟩
    · rfl
    · simp only [V.withLeaves]
      rw [layTup_twice vs l1 l2 hf h1 hl h2]
theorem layTup_same : ∀ (vs : List V), partsOk vs → layTup vs (vs.flatMap V.cells) = vs
  | [], _ => rfl
  | v :: vs, hp => by
    have hp' : partsOk vs := fun v hv => hp v (List.mem_cons_of_mem _ hv)
    rcases hp v (List.mem_cons_self ..) with hv | ⟨cs, rfl⟩
    · rw [layTup_leaf hv, List.flatMap_cons, cells_leaf hv]
      simp [layTup_same vs hp']
    · simp [layTup, V.cells, layTup_same vs hp']
theorem withLeaves_same {v : V} (hf : v.formed) : v.withLeaves v.leaves = v := by
  by_cases hv : v.leaf = true
  · rw [withLeaves_leaf hv, leaves_leaf hv]; rfl
  · rcases not_leaf_agg hv with ⟨cs, rfl⟩ | ⟨vs, rfl⟩
    · rfl
    · simp only [V.withLeaves, V.leaves]; rw [layTup_same vs hf]
def St.turn (σ : St) (h : Home) (u : V) : St := ⟨setSlots σ.slots h u, setObjs' σ.objs h u⟩
theorem setSlots_len (slots : List V) (h : Home) (u : V) : (setSlots slots h u).length = slots.length := by cases h <;> simp [setSlots]
theorem setSlots_append {slots hs : List V} {h : Home} {u : V} (hn : ∀ t i, h = .slot t i → t < slots.length) : setSlots (slots ++ hs) h u = setSlots slots h u ++ hs := by
  cases h with
  | slot s i =>
    have := hn s i rfl
    simp only [setSlots]
    rw [getD_append_left _ _ _ _ this, List.set_append_left _ _ this]
  | obj o i => rfl
theorem CoreS.turnHome (hC : CoreS n E σ hs ts xs H) {h : Home} {u u' : V} (hu : ct σ.slots σ.objs h = some u) (hg : ∀ g, u ≠ .gone g)
    (hin : u'.leaf = true ∧ u'.refs1 = [] ∧ (∀ o off, h = .obj o off → u'.inObj = true))
    (hng : u.nextg ≤ u'.nextg ∧ (u'.gen? = u.gen? ∨ ∀ g sz, u'.gen? = some (g, sz) → u.nextg ≤ g))
    (ca : E'.addr = E.addr) (c1 : ∀ b i, E.imm b i → E'.imm b i) (c2 : ∀ h' w, h' ≠ h → ct (σ.slots ++ hs) σ.objs h' = some w → w.own = true → ∀ b, E.tag b = .home h' → E'.tag b = .home h') (c2' : ∀ h' w, h' ≠ h → ct (σ.slots ++ hs) σ.objs h' = some w → w.own = true → ∀ b m, E.tag b = .tail h' m → E'.tag b = .tail h' m)
    (c0 : ∀ b o, E.tag b = .obj o → E'.tag b = .obj o) (cf : ∀ b, E.tag b = .other → E'.tag b = .other)
    (hrel : ∀ y, hd E (ts ++ xs) H h = some y → RelV E (σ.slots ++ hs) σ.objs (ts ++ xs) H h u y → RelV E' ((σ.turn h u').slots ++ hs) (σ.turn h u').objs (ts ++ xs) H h u' y) :
    CoreS n E' (σ.turn h u') hs ts xs H := by
  obtain ⟨h1, h2⟩ := ct_real' (n := n) (hs := hs) hC.sl hu hg
  refine ⟨by simp [St.turn, setSlots_len, hC.sl], hC.tl, ?_⟩
  have e := setSlots_append (slots := σ.slots) (hs := hs) (u := u') (h := h) (by rw [hC.sl]; exact h2)
  have := hC.core.turn (u' := u') h1 hg hin (fun _ => hng) ca c1 c2 c2' c0 cf (by rw [e]; exact hrel)
  rw [e] at this
  exact this
theorem CoreS.turnHand {w : V} {x : Value} (hC : CoreS n E σ (hs ++ [w]) ts (xs ++ [x]) H) {off : Nat} {u u' : V} (hu : w.leaves[off]? = some u) (hg : ∀ g, u ≠ .gone g)
    (hin : u'.leaf = true ∧ u'.refs1 = [])
    (ca : E'.addr = E.addr) (c1 : ∀ b i, E.imm b i → E'.imm b i) (c2 : ∀ h' w', h' ≠ .slot (n + hs.length) off → ct (σ.slots ++ (hs ++ [w])) σ.objs h' = some w' → w'.own = true → ∀ b, E.tag b = .home h' → E'.tag b = .home h') (c2' : ∀ h' w', h' ≠ .slot (n + hs.length) off → ct (σ.slots ++ (hs ++ [w])) σ.objs h' = some w' → w'.own = true → ∀ b m, E.tag b = .tail h' m → E'.tag b = .tail h' m)
    (c0 : ∀ b o, E.tag b = .obj o → E'.tag b = .obj o) (cf : ∀ b, E.tag b = .other → E'.tag b = .other)
    (hrel : ∀ y, (vleaves x)[off]? = some y → RelV E (σ.slots ++ (hs ++ [w])) σ.objs (ts ++ (xs ++ [x])) H (.slot (n + hs.length) off) u y → ∀ slots', RelV E' slots' σ.objs (ts ++ (xs ++ [x])) H (.slot (n + hs.length) off) u' y) :
    CoreS n E' σ (hs ++ [w.withLeaves (w.leaves.set off u')]) ts (xs ++ [x]) H := by
  have hl := hC.hl
  have hN : σ.slots ++ (hs ++ [w]) = (σ.slots ++ hs) ++ [w] := by rw [List.append_assoc]
  have eg : (σ.slots ++ (hs ++ [w])).getD (n + hs.length) (.gone 0) = w := by
    apply getD_of_getElem?
    rw [hN, List.getElem?_append_right (by simp [hC.sl])]
    simp [hC.sl]
  have ex : (ts ++ (xs ++ [x]))[n + hs.length]? = some x := by
    have hl' : hs.length = xs.length := by simpa using hl
    rw [← List.append_assoc, List.getElem?_append_right (by simp [hC.tl, hl'])]
    simp [hC.tl, hl']
  have hct : ct (σ.slots ++ (hs ++ [w])) σ.objs (.slot (n + hs.length) off) = some u := by simp only [ct, eg]; exact hu
  have e : setSlots (σ.slots ++ (hs ++ [w])) (.slot (n + hs.length) off) u' = σ.slots ++ (hs ++ [w.withLeaves (w.leaves.set off u')]) := by
    simp only [setSlots, eg]
    rw [hN, List.set_append_right _ _ (by simp [hC.sl])]
    simp [hC.sl]
  have := hC.core.turn (E' := E') (u' := u') hct hg ⟨hin.1, hin.2, fun o off h => by cases h⟩ (fun h => absurd (h _ _ rfl) (by omega)) ca c1 c2 c2' c0 cf
    (fun y hy hv => hrel y (by simp only [hd, ex, Option.bind_some] at hy; exact hy) hv _)
  rw [e] at this
  exact ⟨hC.sl, hC.tl, this⟩
def Env.tailAt (E : Env) (b m : Nat) (h : Home) : Env := { E with tag := fun b' => if b' = b then .tail h m else E.tag b' }
theorem CoreS.freeze (hC : CoreS n E σ hs ts xs H) {h : Home} {g sz : Nat} {es : List V} (hu : ct σ.slots σ.objs h = some (.xsl g sz es)) :
    ∃ E', CoreS n E' (σ.turn h (.fsl g sz es)) hs ts xs H ∧ Grow base E H E' H ∧ E'.addr = E.addr := by
  obtain ⟨h1, h2⟩ := ct_real' (n := n) (hs := hs) hC.sl hu (fun g => by simp)
  obtain ⟨y, hy, hv⟩ := hC.core.at_ h1 (fun g => by simp)
  obtain ⟨a, cap, e1, e2, e3, e4, e5, e6⟩ := hv
  by_cases hc : cap = 0
  · refine ⟨E, hC.turnHome hu (fun g => by simp) ⟨rfl, rfl, fun _ _ _ => rfl⟩ ⟨Nat.le_refl _, .inl rfl⟩ rfl (fun _ _ h => h) (fun _ _ _ _ _ _ h => h) (fun _ _ _ _ _ _ _ h => h) (fun _ _ h => h) (fun _ h => h) ?_, Grow.refl _ _ _, rfl⟩
    intro y' hy' _
    rw [hy] at hy'; cases hy'
    exact ⟨a, cap, e1, e2, e3, e4, fun h => absurd hc h, e6⟩
  · obtain ⟨ad, arr, T, f, f1, f2, f3, f4, f5⟩ := e5 hc
    subst f1
    have hne : ∀ b, E.tag b ≠ .home h → b ≠ ad.block := fun b hb e => hb (e ▸ f2)
    have c1 : ∀ b i, E.imm b i → (E.tailAt ad.block (ad.off + es.length * sz) h).imm b i := by
      intro b i hi
      by_cases hb : b = ad.block
      · subst hb; simp [Env.imm, f2] at hi
      · simp only [Env.imm, Env.tailAt, if_neg hb] at hi ⊢; exact hi
    have ct' : ∀ b, b ≠ ad.block → (E.tailAt ad.block (ad.off + es.length * sz) h).tag b = E.tag b := fun b hb => by simp [Env.tailAt, hb]
    refine ⟨E.tailAt ad.block (ad.off + es.length * sz) h, hC.turnHome hu (fun g => by simp) ⟨rfl, rfl, fun _ _ _ => rfl⟩ ⟨Nat.le_refl _, .inl rfl⟩ rfl c1 ?_ ?_ ?_ ?_ ?_, ?_, rfl⟩
    · intro h' w hh _ _ b hb
      rw [ct' b (hne b (by rw [hb]; simp [hh]))]; exact hb
    · intro h' w hh _ _ b m hb
      rw [ct' b (hne b (by rw [hb]; simp))]; exact hb
    · intro b o hb
      rw [ct' b (hne b (by rw [hb]; simp))]; exact hb
    · intro b hb
      rw [ct' b (hne b (by rw [hb]; simp))]; exact hb
    · intro y' hy' _
      rw [hy] at hy'; cases hy'
      refine ⟨some ad, cap, e1, e2, e3, e4, fun _ => ⟨ad, arr, T, f, rfl, by simp [Env.tailAt], f3, f4, f5⟩, ?_⟩
      exact e6.mono (fun b i h => ⟨c1 b i h, rfl⟩) (fun _ _ => rfl)
    · refine ⟨Nat.le_refl _, fun b i h => ⟨c1 b i h, rfl⟩, fun b _ hb => ⟨?_, rfl⟩, fun b hb => ⟨?_, rfl⟩, fun b m hb => ⟨?_, rfl⟩, fun _ _ => rfl⟩
      · rw [ct' b (hne b (by rw [hb]; simp))]; exact hb
      · rw [ct' b (hne b (by rw [hb]; simp))]; exact hb
      · rw [ct' b (hne b (by rw [hb]; simp))]; exact hb
theorem CoreS.letGo (hC : CoreS n E σ hs ts xs H) {h : Home} {u : V} (hu : ct σ.slots σ.objs h = some u) (ho : u.own = true) : CoreS n E (σ.turn h (.gone u.nextg)) hs ts xs H := by
  refine hC.turnHome hu (fun g e => by subst e; simp [V.own] at ho) ⟨rfl, rfl, fun _ _ _ => rfl⟩ ⟨Nat.le_refl _, .inr fun g sz h => by cases h⟩ rfl (fun _ _ h => h) (fun _ _ _ _ _ _ h => h) (fun _ _ _ _ _ _ _ h => h) (fun _ _ h => h) (fun _ h => h) (fun _ _ _ => trivial)
structure View (imm : Nat → Nat → Prop) (H : Array Go.Obj) (sz : Nat) (es : List V) (x : Value) (a : Option Addr) (cap : Nat) : Prop where
  eq : x = .slice a es.length cap
  le : es.length ≤ cap
  nil : a = none → cap = 0
  spot : ∀ ad, a = some ad → cap ≠ 0 → ad.spot = none
  elems : Elems imm H a sz es
theorem View.of_nil {imm : Nat → Nat → Prop} (sz : Nat) : View imm H sz [] (.slice none 0 0) none 0 := ⟨rfl, Nat.le_refl _, fun _ => rfl, fun _ h => (by cases h), Elems.nil _ _ _ _⟩
theorem View.of_isl {imm : Nat → Nat → Prop} {g sz : Nat} {es : List V} {x : Value} (h : RelI imm H (.isl g sz es) x) : ∃ a cap, View imm H sz es x a cap ∧
    ∀ (ad : Addr) (i : Nat) (e : V) (j : Nat), a = some ad → es[i]? = some e → j < e.cells.length → imm ad.block (ad.off + (i * sz + j)) := by
  obtain ⟨a, cap, h1, h2, h3, h4, h5, h6⟩ := isl_elems h
  exact ⟨a, cap, ⟨h1, h2, h3, h4, h5⟩, h6⟩
theorem View.of_srf {slots : List V} {objs : List (Option Obj)} {vals : List Value} {h0 h : Home} {g sz off len : Nat} {es : List V} {x y : Value} {a : Option Addr} {cap : Nat}
    (hx : RelV E slots objs vals H h0 (.srf h g sz off len) x) (hvl : valid slots objs h g sz) (hy : hd E vals H h = some y) (hw : View E.imm H sz es y a cap) (hle : off + len ≤ es.length) :
    ∃ a' cap', View E.imm H sz ((es.drop off).take len) x a' cap' ∧ (cap' ≠ 0 → ∃ ad, a = some ad ∧ a' = some ⟨ad.block, ad.off + off * sz, none⟩ ∧ off + cap' ≤ cap) := by
  obtain ⟨a', c', e2, e3, e4, e5, hx⟩ := hx
  obtain ⟨a0, l, c, e1, e6⟩ := hx hvl
  rw [hy] at e1; cases e1
  have hw1 := hw.eq
  cases hw1
  have hlen : ((es.drop off).take len).length = len := by rw [List.length_take, List.length_drop]; omega
  refine ⟨a', c', ⟨by rw [hlen]; exact e2, by rw [hlen]; exact e3, e4, e5, ?_⟩, e6⟩
  by_cases hc : c' = 0
  · have : (es.drop off).take len = [] := by
      apply List.eq_nil_of_length_eq_zero; omega
    rw [this]; exact Elems.nil _ _ _ _
  · obtain ⟨ad, f1, f2, f3⟩ := e6 hc
    subst f1 f2
    exact hw.elems.sub
theorem Core.homeView {slots : List V} {objs : List (Option Obj)} {vals : List Value} (hC : Core n E slots objs vals H) {h : Home} {u : V} {g sz : Nat} {es : List V} (hu : ct slots objs h = some u) (hk : u = .xsl g sz es ∨ u = .isl g sz es ∨ u = .fsl g sz es) :
    ∃ y a cap, hd E vals H h = some y ∧ View E.imm H sz es y a cap ∧
      (u = .xsl g sz es → cap ≠ 0 → ∃ ad arr T f, a = some ad ∧ E.tag ad.block = .home h ∧ H[ad.block]? = some (.cells arr T f) ∧ ad.off + cap * sz ≤ arr.size ∧ open_ f arr.size) ∧
      (u = .fsl g sz es → cap ≠ 0 → ∃ ad arr T f, a = some ad ∧ E.tag ad.block = .tail h (ad.off + es.length * sz) ∧ H[ad.block]? = some (.cells arr T f) ∧ ad.off + cap * sz ≤ arr.size ∧ open_ f arr.size) ∧
      (u ≠ .xsl g sz es → ∀ (ad : Addr) (i : Nat) (e : V) (j : Nat), a = some ad → es[i]? = some e → j < e.cells.length → E.imm ad.block (ad.off + (i * sz + j))) := by
  obtain ⟨y, hy, hv⟩ := hC.at_ hu (by rintro g' rfl; rcases hk with h | h | h <;> cases h)
  rcases hk with rfl | rfl | rfl
  · obtain ⟨a, cap, e1, e2, e3, e4, e5, e6⟩ := hv
    exact ⟨y, a, cap, hy, ⟨e1, e2, e3, e4, e6⟩, fun _ => e5, fun h => (by cases h), fun h => absurd rfl h⟩
  · obtain ⟨a, cap, hw, hi⟩ := View.of_isl hv
    exact ⟨y, a, cap, hy, hw, fun h => (by cases h), fun h => (by cases h), fun _ => hi⟩
  · obtain ⟨a, cap, e1, e2, e3, e4, e5, e6⟩ := hv
    refine ⟨y, a, cap, hy, ⟨e1, e2, e3, e4, e6⟩, fun h => (by cases h), fun _ => e5, fun _ ad i e j ha hi hj => ?_⟩
    have hlt := lt_of_getElem? hi
    obtain ⟨ad', arr, T, f, f1, f2, _⟩ := e5 (by omega)
    rw [ha] at f1; cases f1
    simp only [Env.imm, f2]
    rw [(e6.1 e (List.mem_of_getElem? hi)).1] at hj
    have : i * sz + j < es.length * sz := by
      calc i * sz + j < i * sz + sz := by omega
        _ = (i + 1) * sz := by rw [Nat.add_mul, Nat.one_mul]
        _ ≤ es.length * sz := Nat.mul_le_mul_right _ hlt
    omega
theorem mem_sub {es : List V} {off len i : Nat} {e : V} (h : ((es.drop off).take len)[i]? = some e) : es[off + i]? = some e ∧ i < len := by
  rw [List.getElem?_take] at h
  split at h
  · rename_i hi; rw [List.getElem?_drop] at h; exact ⟨h, hi⟩
  · cases h
theorem isl_of_view {imm : Nat → Nat → Prop} {sz g : Nat} {es : List V} {x : Value} {a : Option Addr} {cap : Nat} (hw : View imm H sz es x a cap)
    (hi : ∀ (ad : Addr) (i : Nat) (e : V) (j : Nat), a = some ad → es[i]? = some e → j < e.cells.length → imm ad.block (ad.off + (i * sz + j))) : RelI imm H (.isl g sz es) x := by
  rw [hw.eq]
  refine isl_of hw.elems hw.le hw.nil hw.spot fun ad k ha hk => ?_
  by_cases hz : sz = 0
  · subst hz; simp at hk
  · have h1 : k / sz < es.length := Nat.div_lt_of_lt_mul (by rw [Nat.mul_comm]; exact hk)
    obtain ⟨e, he⟩ := exists_getElem? h1
    have h2 := hi ad (k / sz) e (k % sz) ha he (by rw [(hw.elems.1 e (List.mem_of_getElem? he)).1]; exact Nat.mod_lt _ (by omega))
    rw [Nat.mul_comm, Nat.div_add_mod] at h2; exact h2
theorem isl_of_sub {imm : Nat → Nat → Prop} {sz g off len : Nat} {es : List V} {x : Value} {a a' : Option Addr} {cap cap' : Nat} (hw : View imm H sz ((es.drop off).take len) x a' cap')
    (ha : cap' ≠ 0 → ∃ ad, a = some ad ∧ a' = some ⟨ad.block, ad.off + off * sz, none⟩ ∧ off + cap' ≤ cap)
    (hi : ∀ (ad : Addr) (i : Nat) (e : V) (j : Nat), a = some ad → es[i]? = some e → j < e.cells.length → imm ad.block (ad.off + (i * sz + j))) : RelI imm H (.isl g sz ((es.drop off).take len)) x := by
  refine isl_of_view hw fun ad i e j h1 h2 h3 => ?_
  obtain ⟨h4, h5⟩ := mem_sub h2
  have hc : cap' ≠ 0 := by have := lt_of_getElem? h2; have := hw.le; omega
  obtain ⟨ad0, e1, e2, _⟩ := ha hc
  rw [h1] at e2; cases e2
  have := hi ad0 _ e j e1 h4 h3
  rw [show ad0.off + off * sz + (i * sz + j) = ad0.off + ((off + i) * sz + j) by rw [Nat.add_mul]; omega]
  exact this
end
end Go.Vq
namespace Go.Vq
section
variable {n base : Nat} {E E' : Env} {σ σ' : St} {hs : List V} {ts xs : List Value} {H H' : Array Go.Obj}
def Env.setTag (E : Env) (b : Nat) (t : Tag) : Env := { E with tag := fun b' => if b' = b then t else E.tag b' }
theorem setTag_same (E : Env) (b : Nat) (t : Tag) : (E.setTag b t).tag b = t := by simp [Env.setTag]
theorem setTag_ne (E : Env) {b b' : Nat} (t : Tag) (h : b' ≠ b) : (E.setTag b t).tag b' = E.tag b' := by simp [Env.setTag, h]
theorem hand_rel {w : V} {x : Value} (hC : CoreS n E σ (hs ++ [w]) ts (xs ++ [x]) H) : SlotRel E (σ.slots ++ (hs ++ [w])) σ.objs (ts ++ (xs ++ [x])) H (n + hs.length) w x := by
  have hl : hs.length = xs.length := by simpa using hC.hl
  refine hC.core.slot _ w x ?_ ?_
  · rw [← List.append_assoc, List.getElem?_append_right (by simp [hC.sl])]; simp [hC.sl]
  · rw [← List.append_assoc, List.getElem?_append_right (by simp [hC.tl, hl])]; simp [hC.tl, hl]
theorem set_same {α : Type} {l : List α} {i : Nat} {u : α} (h : l[i]? = some u) : l.set i u = l := by
  apply List.ext_getElem?
  intro j
  by_cases hj : i = j
  · subst hj; rw [List.getElem?_set_self (lt_of_getElem? h), h]
  · rw [List.getElem?_set_ne hj]
def V.settled : V → Bool
  | .srf .. | .csl .. => false
  | _ => true
theorem ct_turn {h : Home} {u v : V} (hu : ct σ.slots σ.objs h = some v) (hf : ∀ s i, h = .slot s i → (σ.slot s).formed ∧ (∀ w ∈ (σ.slot s).leaves, w.leaf = true) ∧ s < σ.slots.length) (hl : u.leaf = true) : ct (σ.turn h u).slots (σ.turn h u).objs h = some u := by
  cases h with
  | slot s i =>
    obtain ⟨h1, h2, h3⟩ := hf s i rfl
    have hi := lt_of_getElem? (show (σ.slot s).leaves[i]? = some v from hu)
    show ((σ.slots.set s ((σ.slot s).withLeaves ((σ.slot s).leaves.set i u))).getD s (.gone 0)).leaves[i]? = some u
    rw [getD_of_getElem? (List.getElem?_set_self h3), withLeaves_leaves h1 (by simp) (fun w hw => by
      rcases List.mem_or_eq_of_mem_set hw with h | h
      · exact h2 w h
      · exact h ▸ hl), List.getElem?_set_self hi]
  | obj o i =>
    simp only [ct] at hu
    split at hu
    · rename_i cs ho
      have h1 : σ.objs.getD o none = some (.cells cs) := getD_of_getElem? ho
      simp only [ct, St.turn, setObjs', h1]
      rw [List.getElem?_set_self (lt_of_getElem? ho)]
      simp only [List.getElem?_set_self (lt_of_getElem? hu)]
    · cases hu
theorem CoreS.formedAt (hC : CoreS n E σ hs ts xs H) {h : Home} {v : V} (hu : ct σ.slots σ.objs h = some v) (hg : ∀ g, v ≠ .gone g) :
    ∀ s i, h = .slot s i → (σ.slot s).formed ∧ (∀ w ∈ (σ.slot s).leaves, w.leaf = true) ∧ s < σ.slots.length := by
  rintro s i rfl
  have hs : s < n := by
    rcases Nat.lt_or_ge s n with h1 | h1
    · exact h1
    · exact absurd (ct_slot_big (hC.sl ▸ h1) hu) (hg 0)
  have hS := hC.slotRel hs
  exact ⟨hS.formed, hS.leafs, hC.sl ▸ hs⟩
theorem settle1_sound {w : V} {x : Value} {h : Option Home} {i : Nat} {u : V} {k : V → Prog} (hC : CoreS n E σ (hs ++ [w]) ts (xs ++ [x]) H) (hu : w.leaves[i]? = some u) (hr : (settle1 h u k).run σ = some σ') :
    ∃ E1 σ1 u', CoreS n E1 σ1 (hs ++ [w.withLeaves (w.leaves.set i u')]) ts (xs ++ [x]) H ∧ Grow base E H E1 H ∧ E1.addr = E.addr ∧ (k u').run σ1 = some σ' ∧ u'.leaf = true ∧ u'.settled = true ∧ (u.settled = true → u' = u) := by
  have hS := hand_rel hC
  have hul := hS.leafs u (List.mem_of_getElem? hu)
  have hsame : w.withLeaves (w.leaves.set i u) = w := by rw [set_same hu, withLeaves_same hS.formed]
  by_cases hset : u.settled = true
  · have e : settle1 h u k = k u := by cases u <;> first | rfl | simp [V.settled] at hset
    rw [e] at hr
    exact ⟨E, σ, u, by rw [hsame]; exact hC, Grow.refl _ _ _, rfl, hr, hul, hset, fun _ => rfl⟩
  · have hwl := hS.1
    have hwg : ∀ g, w ≠ .gone g := by rintro g rfl; cases i with | zero => simp at hu; subst hu; exact hset rfl | succ i => simp at hu
    obtain ⟨y, hy⟩ := exists_getElem? (l := vleaves x) (i := i) (by rw [← shape_len hS.1 hwg]; exact lt_of_getElem? hu)
    have hv := hS.2 i u y hu hy
    cases u <;> simp only [V.settled, Bool.true_eq_false, Bool.false_eq_true, not_true_eq_false, not_false_eq_true] at hset
    case csl sz es =>
      refine ⟨E, σ, .isl 0 sz es, ?_, Grow.refl _ _ _, rfl, hr, rfl, rfl, fun h => by cases h⟩
      exact hC.turnHand hu (fun g => by simp) ⟨rfl, rfl⟩ rfl (fun _ _ h => h) (fun _ _ _ _ _ _ h => h) (fun _ _ _ _ _ _ _ h => h) (fun _ _ h => h) (fun _ h => h) (fun y' _ hy' _ => hy'.1)
    case srf h' g sz off len =>
      simp only [settle1] at hr
      replace hr := gHome_run hr
      obtain ⟨c, hc, hr⟩ := hr
      have key : ∀ es, (c = .xsl g sz es ∨ c = .isl g sz es ∨ c = .fsl g sz es) → off + len ≤ es.length → ∀ (E1 : Env) (σ1 : St), CoreS n E1 σ1 (hs ++ [w]) ts (xs ++ [x]) H →
          ct σ1.slots σ1.objs h' = some c ∨ ct σ1.slots σ1.objs h' = some (.fsl g sz es) → (ct σ1.slots σ1.objs h' ≠ some (.xsl g sz es)) →
          CoreS n E1 σ1 (hs ++ [w.withLeaves (w.leaves.set i (.isl 0 sz ((es.drop off).take len)))]) ts (xs ++ [x]) H := by
        intro es hk hle E1 σ1 hC1 hc1 hc2
        have hS1 := hand_rel hC1
        have hv1 := hS1.2 i _ y hu hy
        have hk1 : ∃ c1, ct σ1.slots σ1.objs h' = some c1 ∧ (c1 = .xsl g sz es ∨ c1 = .isl g sz es ∨ c1 = .fsl g sz es) ∧ c1 ≠ .xsl g sz es := by
          rcases hc1 with h | h
          · exact ⟨c, h, hk, fun e => hc2 (e ▸ h)⟩
          · exact ⟨_, h, .inr (.inr rfl), by simp⟩
        obtain ⟨c1, d1, d2, d3⟩ := hk1
        obtain ⟨d4, d5⟩ := ct_real' (n := n) (hs := hs ++ [w]) hC1.sl d1 (by rintro g' rfl; rcases d2 with h | h | h <;> cases h)
        obtain ⟨y', a, cap, f1, f2, f3, f4, f5⟩ := hC1.core.homeView d4 d2
        have hvl : valid (σ1.slots ++ (hs ++ [w])) σ1.objs h' g sz := ⟨c1, d4, by rcases d2 with rfl | rfl | rfl <;> rfl⟩
        obtain ⟨a', cap', g1, g2⟩ := View.of_srf hv1 hvl f1 f2 hle
        refine hC1.turnHand hu (fun g => by simp) ⟨rfl, rfl⟩ rfl (fun _ _ h => h) (fun _ _ _ _ _ _ h => h) (fun _ _ _ _ _ _ _ h => h) (fun _ _ h => h) (fun _ h => h) (fun y2 hy2 _ _ => ?_)
        rw [hy] at hy2; cases hy2
        exact isl_of_sub g1 g2 (f5 d3)
      have hcg : ∀ es, (c = .xsl g sz es ∨ c = .isl g sz es ∨ c = .fsl g sz es) → ∀ g', c ≠ .gone g' := by rintro es hk g' rfl; rcases hk with h | h | h <;> cases h
      split at hr
      · -- owned
        rename_i g' sz' es
        rw [Prog.run_ite] at hr
        split at hr
        · rename_i hcond; obtain ⟨rfl, rfl, hle⟩ := hcond
          rw [Prog.run_ite] at hr
          split at hr
          · -- back to where it came from
            obtain ⟨_, hr⟩ := sHome_run hr
            have hk : V.xsl g' sz' es = .xsl g' sz' es ∨ V.xsl g' sz' es = .isl g' sz' es ∨ V.xsl g' sz' es = .fsl g' sz' es := .inl rfl
            obtain ⟨d4, d5⟩ := ct_real' (n := n) (hs := hs ++ [w]) hC.sl hc (by simp)
            obtain ⟨y', a, cap, f1, f2, f3, f4, f5⟩ := hC.core.homeView d4 hk
            have hvl : valid (σ.slots ++ (hs ++ [w])) σ.objs h' g' sz' := ⟨_, d4, rfl⟩
            obtain ⟨a', cap', g1, g2⟩ := View.of_srf hv hvl f1 f2 hle
            have hC1 : CoreS n E (σ.turn h' (.gone (g' + 1))) (hs ++ [w]) ts (xs ++ [x]) H := hC.letGo hc rfl
            have hct1 := ct_turn (u := .gone (g' + 1)) hc (hC.formedAt hc (by simp)) rfl
            obtain ⟨d6, d7⟩ : ct ((σ.turn h' (.gone (g' + 1))).slots ++ (hs ++ [w])) (σ.turn h' (.gone (g' + 1))).objs h' = some (.gone (g' + 1)) ∧ True := by
              rw [ct_real (n := n) hC1.sl d5]; exact ⟨hct1, trivial⟩
            by_cases hc0 : cap' = 0
            · refine ⟨E, σ.turn h' (.gone (g' + 1)), .xsl 0 sz' ((es.drop off).take len), ?_, Grow.refl _ _ _, rfl, hr, rfl, rfl, fun h => by cases h⟩
              refine hC1.turnHand hu (fun g => by simp) ⟨rfl, rfl⟩ rfl (fun _ _ h => h) (fun _ _ _ _ _ _ h => h) (fun _ _ _ _ _ _ _ h => h) (fun _ _ h => h) (fun _ h => h) (fun y2 hy2 _ _ => ?_)
              rw [hy] at hy2; cases hy2
              exact ⟨a', cap', g1.eq, g1.le, g1.nil, g1.spot, fun h => absurd hc0 h, g1.elems⟩
            · obtain ⟨ad, i1, i2, i3⟩ := g2 hc0
              obtain ⟨ad', arr, T, f, j1, j2, j3, j4, j5⟩ := f3 rfl (by omega)
              rw [i1] at j1; cases j1
              have hne : ∀ b, E.tag b ≠ .home h' → b ≠ ad.block := fun b hb e => hb (e ▸ j2)
              refine ⟨E.setTag ad.block (.home (.slot (n + hs.length) i)), σ.turn h' (.gone (g' + 1)), .xsl 0 sz' ((es.drop off).take len), ?_, ?_, rfl, hr, rfl, rfl, fun h => by cases h⟩
              · refine hC1.turnHand hu (fun g => by simp) ⟨rfl, rfl⟩ rfl ?_ ?_ ?_ ?_ ?_ (fun y2 hy2 _ slots' => ?_)
                · intro b i hi
                  by_cases hb : b = ad.block
                  · subst hb; simp [Env.imm, j2] at hi
                  · simp only [Env.imm, setTag_ne E _ hb] at hi ⊢; exact hi
                · intro h2 w' hh hw ho b hb
                  rw [setTag_ne E _ (hne b (by rw [hb]; rintro e; cases e; rw [d6] at hw; cases hw; cases ho))]; exact hb
                · intro h2 w' hh hw ho b m hb
                  rw [setTag_ne E _ (hne b (by rw [hb]; simp))]; exact hb
                · intro b o hb
                  rw [setTag_ne E _ (hne b (by rw [hb]; simp))]; exact hb
                · intro b hb
                  rw [setTag_ne E _ (hne b (by rw [hb]; simp))]; exact hb
                · rw [hy] at hy2; cases hy2
                  refine ⟨a', cap', g1.eq, g1.le, g1.nil, g1.spot, fun _ => ⟨_, arr, T, f, i2, setTag_same _ _ _, j3, ?_, j5⟩, ?_⟩
                  · calc ad.off + off * sz' + cap' * sz' = ad.off + (off + cap') * sz' := by rw [Nat.add_mul]; omega
                      _ ≤ ad.off + cap * sz' := Nat.add_le_add_left (Nat.mul_le_mul_right _ i3) _
                      _ ≤ arr.size := j4
                  · refine g1.elems.mono (fun b i hi => ⟨?_, rfl⟩) (fun _ _ => rfl)
                    by_cases hb : b = ad.block
                    · subst hb; simp [Env.imm, j2] at hi
                    · simp only [Env.imm, setTag_ne E _ hb] at hi ⊢; exact hi
              · refine ⟨Nat.le_refl _, fun b i hi => ⟨?_, rfl⟩, fun b _ hb => ⟨?_, rfl⟩, fun b hb => ⟨?_, rfl⟩, fun b m hb => ⟨?_, rfl⟩, fun _ _ => rfl⟩
                · by_cases hb : b = ad.block
                  · subst hb; simp [Env.imm, j2] at hi
                  · simp only [Env.imm, setTag_ne E _ hb] at hi ⊢; exact hi
                · rw [setTag_ne E _ (hne b (by rw [hb]; simp))]; exact hb
                · rw [setTag_ne E _ (hne b (by rw [hb]; simp))]; exact hb
                · rw [setTag_ne E _ (hne b (by rw [hb]; simp))]; exact hb
          · -- frozen
            obtain ⟨_, hr⟩ := sHome_run hr
            obtain ⟨E1, hC1, hG, hA⟩ := hC.freeze (base := base) hc
            have hct1 := ct_turn (u := .fsl g' sz' es) hc (hC.formedAt hc (by simp)) rfl
            exact ⟨E1, _, _, key es (.inl rfl) hle E1 _ hC1 (.inr hct1) (by rw [hct1]; simp), hG, hA, hr, rfl, rfl, fun h => by cases h⟩
        · cases hr
      · -- frozen already
        rename_i g' sz' es
        rw [Prog.run_ite] at hr
        split at hr
        · rename_i hcond; obtain ⟨rfl, rfl, hle⟩ := hcond
          rw [Prog.run_ite] at hr
          split at hr
          · obtain ⟨_, hr⟩ := sHome_run hr
            have hk : V.fsl g' sz' es = .xsl g' sz' es ∨ V.fsl g' sz' es = .isl g' sz' es ∨ V.fsl g' sz' es = .fsl g' sz' es := .inr (.inr rfl)
            obtain ⟨d4, d5⟩ := ct_real' (n := n) (hs := hs ++ [w]) hC.sl hc (by simp)
            obtain ⟨y', a, cap, f1, f2, f3, f4, f5⟩ := hC.core.homeView d4 hk
            have hvl : valid (σ.slots ++ (hs ++ [w])) σ.objs h' g' sz' := ⟨_, d4, rfl⟩
            obtain ⟨a', cap', g1, g2⟩ := View.of_srf hv hvl f1 f2 hle
            have hC1 : CoreS n E (σ.turn h' (.gone (g' + 1))) (hs ++ [w]) ts (xs ++ [x]) H := hC.letGo hc rfl
            have hct1 := ct_turn (u := .gone (g' + 1)) hc (hC.formedAt hc (by simp)) rfl
            obtain ⟨d6, d7⟩ : ct ((σ.turn h' (.gone (g' + 1))).slots ++ (hs ++ [w])) (σ.turn h' (.gone (g' + 1))).objs h' = some (.gone (g' + 1)) ∧ True := by
              rw [ct_real (n := n) hC1.sl d5]; exact ⟨hct1, trivial⟩
            split at hr
            · rename_i hend
              have hsl : ((es.drop off).take len).length = len := by rw [List.length_take, List.length_drop]; omega
              by_cases hc0 : cap' = 0
              · refine ⟨E, σ.turn h' (.gone (g' + 1)), .fsl 0 sz' ((es.drop off).take len), ?_, Grow.refl _ _ _, rfl, hr, rfl, rfl, fun h => by cases h⟩
                refine hC1.turnHand hu (fun g => by simp) ⟨rfl, rfl⟩ rfl (fun _ _ h => h) (fun _ _ _ _ _ _ h => h) (fun _ _ _ _ _ _ _ h => h) (fun _ _ h => h) (fun _ h => h) (fun y2 hy2 _ _ => ?_)
                rw [hy] at hy2; cases hy2
                exact ⟨a', cap', g1.eq, g1.le, g1.nil, g1.spot, fun h => absurd hc0 h, g1.elems⟩
              · obtain ⟨ad, i1, i2, i3⟩ := g2 hc0
                obtain ⟨ad', arr, T, f, j1, j2, j3, j4, j5⟩ := f4 rfl (by omega)
                rw [i1] at j1; cases j1
                have hne : ∀ b, E.tag b ≠ .tail h' (ad.off + es.length * sz') → b ≠ ad.block := fun b hb e => hb (e ▸ j2)
                have himm : ∀ b i', E.imm b i' → (E.setTag ad.block (.tail (.slot (n + hs.length) i) (ad.off + es.length * sz'))).imm b i' := by
                  intro b i' hi
                  by_cases hb : b = ad.block
                  · subst hb; simp only [Env.imm, j2, setTag_same] at hi ⊢; exact hi
                  · simp only [Env.imm, setTag_ne E _ hb] at hi ⊢; exact hi
                refine ⟨E.setTag ad.block (.tail (.slot (n + hs.length) i) (ad.off + es.length * sz')), σ.turn h' (.gone (g' + 1)), .fsl 0 sz' ((es.drop off).take len), ?_, ?_, rfl, hr, rfl, rfl, fun h => by cases h⟩
                · refine hC1.turnHand hu (fun g => by simp) ⟨rfl, rfl⟩ rfl himm ?_ ?_ ?_ ?_ (fun y2 hy2 _ slots' => ?_)
                  · intro h2 w' hh hw ho b hb
                    rw [setTag_ne E _ (hne b (by rw [hb]; simp))]; exact hb
                  · intro h2 w' hh hw ho b m hb
                    rw [setTag_ne E _ (hne b (by rw [hb]; rintro e; cases e; rw [d6] at hw; cases hw; cases ho))]; exact hb
                  · intro b o hb
                    rw [setTag_ne E _ (hne b (by rw [hb]; simp))]; exact hb
                  · intro b hb
                    rw [setTag_ne E _ (hne b (by rw [hb]; simp))]; exact hb
                  · rw [hy] at hy2; cases hy2
                    refine ⟨a', cap', g1.eq, g1.le, g1.nil, g1.spot, fun _ => ⟨_, arr, T, f, i2, ?_, j3, ?_, j5⟩, ?_⟩
                    · rw [setTag_same, hsl]
                      show Tag.tail _ (ad.off + es.length * sz') = Tag.tail _ (ad.off + off * sz' + len * sz')
                      rw [← hend, Nat.add_mul, Nat.add_assoc]
                    · calc ad.off + off * sz' + cap' * sz' = ad.off + (off + cap') * sz' := by rw [Nat.add_mul]; omega
                        _ ≤ ad.off + cap * sz' := Nat.add_le_add_left (Nat.mul_le_mul_right _ i3) _
                        _ ≤ arr.size := j4
                    · exact g1.elems.mono (fun b i hi => ⟨himm b i hi, rfl⟩) (fun _ _ => rfl)
                · refine ⟨Nat.le_refl _, fun b i hi => ⟨himm b i hi, rfl⟩, fun b _ hb => ⟨?_, rfl⟩, fun b hb => ⟨?_, rfl⟩, fun b m hb => ⟨?_, rfl⟩, fun _ _ => rfl⟩
                  · rw [setTag_ne E _ (hne b (by rw [hb]; simp))]; exact hb
                  · rw [setTag_ne E _ (hne b (by rw [hb]; simp))]; exact hb
                  · rw [setTag_ne E _ (hne b (by rw [hb]; simp))]; exact hb
            · refine ⟨E, σ.turn h' (.gone (g' + 1)), .isl 0 sz' ((es.drop off).take len), ?_, Grow.refl _ _ _, rfl, hr, rfl, rfl, fun h => by cases h⟩
              refine hC1.turnHand hu (fun g => by simp) ⟨rfl, rfl⟩ rfl (fun _ _ h => h) (fun _ _ _ _ _ _ h => h) (fun _ _ _ _ _ _ _ h => h) (fun _ _ h => h) (fun _ h => h) (fun y2 hy2 _ _ => ?_)
              rw [hy] at hy2; cases hy2
              exact isl_of_sub g1 g2 (f5 (by simp))
          · exact ⟨E, σ, _, key es (.inr (.inr rfl)) hle E σ hC (.inl hc) (by rw [hc]; simp), Grow.refl _ _ _, rfl, hr, rfl, rfl, fun h => by cases h⟩
        · cases hr
      · rename_i g' sz' es
        rw [Prog.run_ite] at hr
        split at hr
        · rename_i hcond; obtain ⟨rfl, rfl, hle⟩ := hcond
          exact ⟨E, σ, _, key es (.inr (.inl rfl)) hle E σ hC (.inl hc) (by rw [hc]; simp), Grow.refl _ _ _, rfl, hr, rfl, rfl, fun h => by cases h⟩
        · cases hr
      · cases hr
end
end Go.Vq
namespace Go.Vq
section
variable {n base : Nat} {E E' : Env} {σ σ' : St} {hs : List V} {ts xs : List Value} {H H' : Array Go.Obj}
def Sound1 (n base : Nat) (f1 : Option Home → V → (V → Prog) → Prog) (Q : V → Prop) : Prop :=
  ∀ (E : Env) (σ σ' : St) (hs : List V) (ts xs : List Value) (H : Array Go.Obj) (w : V) (x : Value) (h : Option Home) (i : Nat) (u : V) (k : V → Prog),
    CoreS n E σ (hs ++ [w]) ts (xs ++ [x]) H → w.leaves[i]? = some u → (f1 h u k).run σ = some σ' →
    ∃ E1 σ1 u', CoreS n E1 σ1 (hs ++ [w.withLeaves (w.leaves.set i u')]) ts (xs ++ [x]) H ∧ Grow base E H E1 H ∧ E1.addr = E.addr ∧ (k u').run σ1 = some σ' ∧ u'.leaf = true ∧ Q u'
theorem settle1_Sound : Sound1 n base settle1 (fun u => u.settled = true) := by
  intro E σ σ' hs ts xs H w x h i u k hC hu hr
  obtain ⟨E1, σ1, u', h1, h2, h3, h4, h5, h6, _⟩ := settle1_sound (base := base) hC hu hr
  exact ⟨E1, σ1, u', h1, h2, h3, h4, h5, h6⟩
theorem keep1_Sound : Sound1 n base keep1 (fun u => True) := by
  intro E σ σ' hs ts xs H w x h i u k hC hu hr
  have hS := hand_rel hC
  have hsame : w.withLeaves (w.leaves.set i u) = w := by rw [set_same hu, withLeaves_same hS.formed]
  have hid : (k u).run σ = some σ' → ∃ E1 σ1 u', CoreS n E1 σ1 (hs ++ [w.withLeaves (w.leaves.set i u')]) ts (xs ++ [x]) H ∧ Grow base E H E1 H ∧ E1.addr = E.addr ∧ (k u').run σ1 = some σ' ∧ u'.leaf = true ∧ True :=
    fun hr => ⟨E, σ, u, by rw [hsame]; exact hC, Grow.refl _ _ _, rfl, hr, hS.leafs u (List.mem_of_getElem? hu), trivial⟩
  cases u <;> first
    | exact hid hr
    | (simp only [keep1] at hr
       rw [Prog.run_ite] at hr
       split at hr
       · obtain ⟨E1, σ1, u', h1, h2, h3, h4, h5, h6, _⟩ := settle1_sound (base := base) hC hu hr
         exact ⟨E1, σ1, u', h1, h2, h3, h4, h5, trivial⟩
       · exact hid hr)
theorem list_sound {f1 : Option Home → V → (V → Prog) → Prog} {Q : V → Prop} (h1 : Sound1 n base f1 Q) (f : (Nat → Option Home) → Nat → List V → (List V → Prog) → Prog)
    (hnil : ∀ mk j k, f mk j [] k = k []) (hcons : ∀ mk j v vs k, f mk j (v :: vs) k = f1 (mk j) v fun v' => f mk (j + 1) vs fun vs' => k (v' :: vs')) (mk : Nat → Option Home) :
    ∀ (rest done : List V) {E : Env} {σ : St} {w : V} {x : Value} {k : List V → Prog}, CoreS n E σ (hs ++ [w]) ts (xs ++ [x]) H → w.leaves = done ++ rest → (f mk done.length rest k).run σ = some σ' →
    ∃ E1 σ1 ls, CoreS n E1 σ1 (hs ++ [w.withLeaves (done ++ ls)]) ts (xs ++ [x]) H ∧ Grow base E H E1 H ∧ E1.addr = E.addr ∧ (k ls).run σ1 = some σ' ∧ ls.length = rest.length ∧ ∀ u ∈ ls, u.leaf = true ∧ Q u
  | [], done, E, σ, w, x, k, hC, hw, hr => by
    rw [hnil] at hr
    have hS := hand_rel hC
    refine ⟨E, σ, [], ?_, Grow.refl _ _ _, rfl, hr, rfl, fun u h => by cases h⟩
    rw [← hw, withLeaves_same hS.formed]; exact hC
  | v :: rest, done, E, σ, w, x, k, hC, hw, hr => by
    rw [hcons] at hr
    have hS := hand_rel hC
    have hv : w.leaves[done.length]? = some v := by rw [hw]; simp
    obtain ⟨E1, σ1, u', a1, a2, a3, a4, a5, a6⟩ := h1 _ _ _ _ _ _ _ _ _ _ _ _ _ hC hv hr
    have hset : w.leaves.set done.length u' = done ++ u' :: rest := by rw [hw]; simp
    have hlf : ∀ u ∈ w.leaves.set done.length u', u.leaf = true := by
      intro u hu
      rcases List.mem_or_eq_of_mem_set hu with h | h
      · exact hS.leafs u h
      · exact h ▸ a5
    have hl1 : (w.withLeaves (w.leaves.set done.length u')).leaves = (done ++ [u']) ++ rest := by
      rw [withLeaves_leaves hS.formed (by simp) hlf, hset]; simp
    obtain ⟨E2, σ2, ls, b1, b2, b3, b4, b5, b6⟩ := list_sound h1 f hnil hcons mk rest (done ++ [u']) a1 hl1 (by simpa using a4)
    refine ⟨E2, σ2, u' :: ls, ?_, a2.trans b2, b3.trans a3, b4, by simp [b5], fun u hu => ?_⟩
    · rw [withLeaves_twice hS.formed (by simp) hlf (by
        have h1 := congrArg List.length hw
        simp at h1
        simp [b5, h1])] at b1
      rw [show done ++ u' :: ls = (done ++ [u']) ++ ls by simp]
      exact b1
    · rcases List.mem_cons.1 hu with h | h
      · subst h; exact ⟨a5, a6⟩
      · exact b6 u h
theorem settle_sound (mk : Nat → Option Home) {w : V} {x : Value} {k : List V → Prog} (hC : CoreS n E σ (hs ++ [w]) ts (xs ++ [x]) H) (hr : (settle mk 0 w.leaves k).run σ = some σ') :
    ∃ E1 σ1 ls, CoreS n E1 σ1 (hs ++ [w.withLeaves ls]) ts (xs ++ [x]) H ∧ Grow base E H E1 H ∧ E1.addr = E.addr ∧ (k ls).run σ1 = some σ' ∧ ls.length = w.leaves.length ∧ ∀ u ∈ ls, u.leaf = true ∧ u.settled = true :=
  list_sound settle1_Sound settle (fun _ _ _ => rfl) (fun _ _ _ _ _ => rfl) mk w.leaves [] hC rfl hr
theorem keeps_sound (mk : Nat → Option Home) {w : V} {x : Value} {k : List V → Prog} (hC : CoreS n E σ (hs ++ [w]) ts (xs ++ [x]) H) (hr : (keeps mk 0 w.leaves k).run σ = some σ') :
    ∃ E1 σ1 ls, CoreS n E1 σ1 (hs ++ [w.withLeaves ls]) ts (xs ++ [x]) H ∧ Grow base E H E1 H ∧ E1.addr = E.addr ∧ (k ls).run σ1 = some σ' ∧ ls.length = w.leaves.length ∧ ∀ u ∈ ls, u.leaf = true ∧ True :=
  list_sound keep1_Sound keeps (fun _ _ _ => rfl) (fun _ _ _ _ _ => rfl) mk w.leaves [] hC rfl hr
theorem plain_leaf {v : V} (h : v.plain = true) : v.leaf = true ∧ v.own = false ∧ v.refs1 = [] ∧ v.settled = true := by
  cases v <;> first | (simp [V.plain] at h; done) | exact ⟨rfl, rfl, rfl, rfl⟩
theorem hasX_false {v : V} (h : v.hasX = false) : ∀ u ∈ v.leaves, u.own = false := by
  intro u hu
  have := List.any_eq_false.1 h u hu
  cases u <;> first | rfl | simp at this
theorem opd_rel {o : Opd} {x : Value} {v : V} {k : V → Prog} (hC : CoreS n E σ hs ts xs H) (ho : OpdOk ts o x) (hr : (gOpd o k).run σ = some σ') :
    ∃ v, (k v).run σ = some σ' ∧ (∃ s, SlotRel E (σ.slots ++ hs) σ.objs (ts ++ xs) H s v x ∧ ∀ t, o = .tmp t → t < n → s = t) ∧ (∀ r ∈ v.refs, (∀ t i, r.1 = .slot t i → t < n) ∧ ∃ u, ct (σ.slots ++ hs) σ.objs r.1 = some u ∧ r.2 < u.nextg) ∧
      (∀ t, o = .tmp t → v = σ.slot t) ∧ (∀ v', o = .val v' → v = v' ∧ ∀ u ∈ v.leaves, u.own = false) := by
  cases o with
  | tmp t =>
    refine ⟨σ.slot t, hr, ⟨t, ?_, fun t' e _ => (by cases e; rfl)⟩, hC.slotRefs t, fun t' e => (by cases e; rfl), fun v' e => (by cases e)⟩
    by_cases ht : t < n
    · have := hC.slotRel ht; simp only [OpdOk] at ho; rw [ho] at this; exact this
    · rw [hC.slotBig ht]; exact ⟨trivial, fun i u y hu _ => by cases i with | zero => simp at hu; subst hu; trivial | succ i => simp at hu⟩
  | val v =>
    exact ⟨v, hr, ⟨0, ho.1 _ _ _ _ _ _, fun t e => (by cases e)⟩, (by rw [ho.2.1]; intro r hr; cases hr), fun t e => (by cases e), fun v' e => (by cases e; exact ⟨rfl, ho.2.2⟩)⟩
theorem slotRel_any {s : Nat} {v : V} {x : Value} {slots : List V} {objs : List (Option Obj)} {vals : List Value} (h : SlotRel E slots objs vals H s v x) (ho : ∀ u ∈ v.leaves, u.own = false) (s' : Nat) : SlotRel E slots objs vals H s' v x :=
  ⟨h.1, fun i u y hu hy => (h.2 i u y hu hy).move (fun _ _ h => ⟨h, rfl⟩) (fun h1 => by rw [ho u (List.mem_of_getElem? hu)] at h1; cases h1) (fun h1 => by rw [ho u (List.mem_of_getElem? hu)] at h1; cases h1) (fun _ _ h => ⟨rfl, h⟩) (fun _ _ _ _ h => ⟨rfl, h⟩) fun _ _ _ h => ⟨h, rfl⟩⟩
theorem grab_sound {o : Opd} {x : Value} {k : Prog} {v : V} (hC : CoreS n E σ hs ts xs H) (hv : ∃ s, SlotRel E (σ.slots ++ hs) σ.objs (ts ++ xs) H s v x ∧ ∀ t, o = .tmp t → t < n → s = t)
    (hrf : ∀ r ∈ v.refs, (∀ t i, r.1 = .slot t i → t < n) ∧ ∃ u, ct (σ.slots ++ hs) σ.objs r.1 = some u ∧ r.2 < u.nextg)
    (h1 : ∀ t, o = .tmp t → v = σ.slot t) (h2 : ∀ v', o = .val v' → v = v' ∧ ∀ u ∈ v.leaves, u.own = false) (ho : OpdOk ts o x) (hr : (drain o k).run σ = some σ') :
    ∃ E1 σ1, CoreS n E1 σ1 (hs ++ [v]) ts (xs ++ [x]) H ∧ Grow base E H E1 H ∧ E1.addr = E.addr ∧ k.run σ1 = some σ' := by
  obtain ⟨s, hS, hs'⟩ := hv
  have hno : v.hasX = false → CoreS n E σ (hs ++ [v]) ts (xs ++ [x]) H := fun hx => hC.push (hasX_false hx) (slotRel_any hS (hasX_false hx) 0) hrf
  cases o with
  | tmp t =>
    have e := h1 t rfl
    subst e
    simp only [drain, Prog.run] at hr
    rw [Prog.run_ite] at hr
    split at hr
    · rename_i hx
      have ht : t < n := by
        rcases Nat.lt_or_ge t n with h | h
        · exact h
        · rw [hC.slotBig (by omega)] at hx; simp [V.hasX] at hx
      have := hC.take ht
      simp only [OpdOk] at ho; rw [ho] at this
      exact ⟨_, _, this, Grow.retag _ _ _ _, rfl, hr⟩
    · rename_i hx
      exact ⟨E, σ, hno (by simpa using hx), Grow.refl _ _ _, rfl, hr⟩
  | val v' =>
    obtain ⟨rfl, h3⟩ := h2 v' rfl
    refine ⟨E, σ, ?_, Grow.refl _ _ _, rfl, hr⟩
    exact hC.push h3 (slotRel_any hS h3 0) hrf
theorem gMove_sound (mk : Nat → Option Home) {o : Opd} {x : Value} {k : V → Prog} (hC : CoreS n E σ hs ts xs H) (ho : OpdOk ts o x) (hr : (gMove mk o k).run σ = some σ') :
    ∃ E1 σ1 v, CoreS n E1 σ1 (hs ++ [v]) ts (xs ++ [x]) H ∧ Grow base E H E1 H ∧ E1.addr = E.addr ∧ (k v).run σ1 = some σ' ∧ ∀ u ∈ v.leaves, u.settled = true := by
  obtain ⟨v, hr, hv, hrf, h1, h2⟩ := opd_rel (v := .nil) hC ho hr
  rw [Prog.run_ite] at hr
  split at hr
  · rename_i hp
    have hpl := plain_leaf hp
    have hno : ∀ u ∈ v.leaves, u.own = false := by rw [leaves_leaf hpl.1]; simp [hpl.2.1]
    obtain ⟨s, hS, _⟩ := hv
    exact ⟨E, σ, v, hC.push hno (slotRel_any hS hno 0) hrf, Grow.refl _ _ _, rfl, hr, by rw [leaves_leaf hpl.1]; simp [hpl.2.2.2]⟩
  · obtain ⟨E1, σ1, a1, a2, a3, a4⟩ := grab_sound (base := base) hC hv hrf h1 h2 ho hr
    obtain ⟨E2, σ2, ls, b1, b2, b3, b4, b5, b6⟩ := settle_sound (base := base) mk a1 a4
    refine ⟨E2, σ2, _, b1, a2.trans b2, b3.trans a3, b4, ?_⟩
    rw [withLeaves_leaves (hand_rel a1).formed b5 fun u hu => (b6 u hu).1]
    exact fun u hu => (b6 u hu).2
theorem gKeep_sound (mk : Nat → Option Home) {o : Opd} {x : Value} {k : V → Prog} (hC : CoreS n E σ hs ts xs H) (ho : OpdOk ts o x) (hr : (gKeep mk o k).run σ = some σ') :
    ∃ E1 σ1 v, CoreS n E1 σ1 (hs ++ [v]) ts (xs ++ [x]) H ∧ Grow base E H E1 H ∧ E1.addr = E.addr ∧ (k v).run σ1 = some σ' := by
  obtain ⟨v, hr, hv, hrf, h1, h2⟩ := opd_rel (v := .nil) hC ho hr
  rw [Prog.run_ite] at hr
  split at hr
  · rename_i hp
    have hpl := plain_leaf hp
    have hno : ∀ u ∈ v.leaves, u.own = false := by rw [leaves_leaf hpl.1]; simp [hpl.2.1]
    obtain ⟨s, hS, _⟩ := hv
    exact ⟨E, σ, v, hC.push hno (slotRel_any hS hno 0) hrf, Grow.refl _ _ _, rfl, hr⟩
  · obtain ⟨E1, σ1, a1, a2, a3, a4⟩ := grab_sound (base := base) hC hv hrf h1 h2 ho hr
    obtain ⟨E2, σ2, ls, b1, b2, b3, b4, b5, b6⟩ := keeps_sound (base := base) mk a1 a4
    exact ⟨E2, σ2, _, b1, a2.trans b2, b3.trans a3, b4⟩
end
end Go.Vq
namespace Go.Vq
section
variable {P : Program} {n base : Nat} {E E' : Env} {σ σ' : St} {hs : List V} {ts xs : List Value} {H H' : Array Go.Obj}
theorem constLeaf {v : V} {x : Value} (hl : v.leaf = true) (ho : v.own = false) (hf : v.refs1 = []) (hx : leafX x = true)
    (hr : ∀ (E : Env) (slots : List V) (objs : List (Option Obj)) (vals : List Value) (H : Array Go.Obj) (h : Home), RelV E slots objs vals H h v x) : ConstOk v x := by
  refine ⟨fun E slots objs vals H s => ⟨shape_leaf hl hx, fun i u y hu hy => ?_⟩, ?_, ?_⟩
  · rw [leaves_leaf hl] at hu
    rw [vleaves_leaf hx] at hy
    cases i with
    | zero => simp at hu hy; subst hu hy; exact hr _ _ _ _ _ _
    | succ i => simp at hu
  · rw [V.refs, leaves_leaf hl]; simp [hf]
  · rw [leaves_leaf hl]; simp [ho]
theorem plainV_rel {x : Value} {v : V} (h : plainV x = some v) : v.leaf = true ∧ v.own = false ∧ v.refs1 = [] ∧ leafX x = true ∧ (∀ (imm : Nat → Nat → Prop) (H : Array Go.Obj), RelI imm H v x) ∧ (∀ E slots objs vals H h, RelV E slots objs vals H h v x) := by
  unfold plainV at h
  split at h <;> first
    | (cases h; done)
    | (cases h; first
        | exact ⟨rfl, rfl, rfl, rfl, fun _ _ => .bool _, fun _ _ _ _ _ _ => RelI.bool _⟩
        | exact ⟨rfl, rfl, rfl, rfl, fun _ _ => .int _ _, fun _ _ _ _ _ _ => RelI.int _ _⟩
        | exact ⟨rfl, rfl, rfl, rfl, fun _ _ => .str _, fun _ _ _ _ _ _ => RelI.str _⟩
        | exact ⟨rfl, rfl, rfl, rfl, fun _ _ => .nil, fun _ _ _ _ _ _ => RelI.nil⟩
        | exact ⟨rfl, rfl, rfl, rfl, fun _ _ => .nilm, fun _ _ _ _ _ _ => RelI.nilm⟩
        | exact ⟨rfl, rfl, rfl, rfl, fun _ _ => .nilf, fun _ _ _ _ _ _ => RelI.nilf⟩
        | exact ⟨rfl, rfl, rfl, rfl, fun _ _ => .nili, fun _ _ _ _ _ _ => RelI.nili⟩)
theorem valOf_rel {t : TypeId} {x : Value} {v : V} (h : valOf P t x = some v) : v.leaf = true ∧ v.own = false ∧ v.refs1 = [] ∧ leafX x = true ∧ (∀ E slots objs vals H h, RelV E slots objs vals H h v x) ∧ ∀ (imm : Nat → Nat → Prop) (H : Array Go.Obj), RelI imm H v x := by
  unfold valOf at h
  split at h
  · unfold nilOf at h
    simp only [Option.bind_eq_bind, Option.pure_def] at h
    obtain ⟨d, hd, h⟩ := Option.bind_eq_some_iff.1 h
    split at h
    · obtain ⟨z, hz, h⟩ := Option.bind_eq_some_iff.1 h
      cases h
      exact ⟨rfl, rfl, rfl, rfl, fun _ _ _ _ _ _ => RelI.nilS _, fun _ _ => .nilS _⟩
    · cases h
  · obtain ⟨h1, h2, h3, h4, h5, h6⟩ := plainV_rel h
    exact ⟨h1, h2, h3, h4, h6, h5⟩
theorem valsOf_rel : ∀ {ts : List TypeId} {xs : List Value} {vs : List V}, valsOf P ts xs = some vs → vs.length = xs.length ∧ ∀ (i : Nat) (v : V) (x : Value), vs[i]? = some v → xs[i]? = some x → ∃ t, valOf P t x = some v
  | [], [], vs, h => by cases h; exact ⟨rfl, fun i v x h => by simp at h⟩
  | [], _ :: _, vs, h => by cases h
  | _ :: _, [], vs, h => by cases h
  | t :: ts, x :: xs, vs, h => by
    simp only [valsOf, Option.bind_eq_bind, Option.pure_def] at h
    obtain ⟨v, hv, h⟩ := Option.bind_eq_some_iff.1 h
    obtain ⟨us, hu, h⟩ := Option.bind_eq_some_iff.1 h
    cases h
    obtain ⟨i1, i2⟩ := valsOf_rel hu
    refine ⟨by simp [i1], fun i v' x' h1 h2 => ?_⟩
    cases i with
    | zero => simp at h1 h2; subst h1 h2; exact ⟨t, hv⟩
    | succ i => exact i2 i v' x' (by simpa using h1) (by simpa using h2)
theorem aggConst {ts : List TypeId} {cs : Array Value} {vs : List V} (h : valsOf P ts cs.toList = some vs) : ConstOk (.agg vs) (.agg cs) := by
  obtain ⟨h1, h2⟩ := valsOf_rel h
  have hall : ∀ u ∈ vs, u.leaf = true ∧ u.own = false ∧ u.refs1 = [] := by
    intro u hu
    obtain ⟨i, hi, rfl⟩ := List.getElem_of_mem hu
    obtain ⟨t, ht⟩ := h2 i _ _ (List.getElem?_eq_getElem hi) (List.getElem?_eq_getElem (by omega))
    have := valOf_rel ht
    exact ⟨this.1, this.2.1, this.2.2.1⟩
  refine ⟨fun E slots objs vals H s => ⟨⟨cs, rfl, by simpa using h1⟩, fun i u y hu hy => ?_⟩, ?_, fun u hu => (hall u hu).2.1⟩
  · obtain ⟨t, ht⟩ := h2 i u y hu hy
    exact (valOf_rel ht).2.2.2.2.1 _ _ _ _ _ _
  · simp only [V.refs, V.leaves]
    rw [List.flatMap_eq_nil_iff]
    exact fun u hu => (hall u hu).2.2
theorem opd_ok {t : TypeId} {o : Operand} {v : Opd} (a : Act) (h : opd P t o = some v) : OpdOk a.tmps.toList v (a.eval o) := by
  unfold opd at h
  split at h
  · cases h; simp [OpdOk, Act.eval, Array.getD_eq_getD_getElem?, List.getD_eq_getElem?_getD]
  · simp only [Option.bind_eq_bind, Option.pure_def] at h
    obtain ⟨ts, _, h⟩ := Option.bind_eq_some_iff.1 h
    obtain ⟨vs, hv, h⟩ := Option.bind_eq_some_iff.1 h
    cases h
    exact aggConst hv
  · obtain ⟨u, hu, h⟩ := Option.map_eq_some_iff.1 h
    subst h
    obtain ⟨h1, h2, h3, h4, h5, _⟩ := valOf_rel hu
    exact constLeaf h1 h2 h3 h4 h5
  · cases h
    exact constLeaf rfl rfl rfl rfl fun E slots objs vals H h => RelC.func _ [] #[] rfl (fun i v x h => by simp at h)
  · cases h
theorem opd0_ok {o : Operand} {v : Opd} (a : Act) (h : opd0 o = some v) : OpdOk a.tmps.toList v (a.eval o) := by
  unfold opd0 at h
  split at h
  · cases h; simp [OpdOk, Act.eval, Array.getD_eq_getD_getElem?, List.getD_eq_getElem?_getD]
  · cases h
  · obtain ⟨u, hu, h⟩ := Option.map_eq_some_iff.1 h
    subst h
    obtain ⟨h1, h2, h3, h4, h5, h6⟩ := plainV_rel hu
    exact constLeaf h1 h2 h3 h4 h6
  · cases h
    exact constLeaf rfl rfl rfl rfl fun E slots objs vals H h => RelC.func _ [] #[] rfl (fun i v x h => by simp at h)
  · cases h
structure WSame (w w' : World) : Prop where
  os : w'.os = w.os
  output : w'.output = w.output
  tape : w'.tape = w.tape
theorem WSame.refl (w : World) : WSame w w := ⟨rfl, rfl, rfl⟩
theorem WSame.trans {w w1 w2 : World} (h : WSame w w1) (h' : WSame w1 w2) : WSame w w2 := ⟨h'.os.trans h.os, h'.output.trans h.output, h'.tape.trans h.tape⟩
def NextOk (n base : Nat) (E : Env) (σ' : St) (a : Act) (w : World) (next : Act → World → Prop) : Prop :=
  ∀ (E' : Env) (a' : Act) (w' : World), CoreS n E' σ' [] a'.tmps.toList [] w'.heap → Grow base E w.heap E' w'.heap → WSame w w' → a'.defers = a.defers → next a' w'
def putL (ts : List Value) (d : Option Nat) (x : Value) : List Value := match d with | some d => ts.set d x | none => ts
theorem putO_sound {v : V} {x : Value} {d : Option Nat} {k : Prog} (hC : CoreS n E σ (hs ++ [v]) ts (xs ++ [x]) H) (hr : (putO d v k).run σ = some σ') :
    ∃ E1 σ1, CoreS n E1 σ1 hs (putL ts d x) xs H ∧ Grow base E H E1 H ∧ E1.addr = E.addr ∧ k.run σ1 = some σ' := by
  cases d with
  | none => exact ⟨E, σ, hC.pop, Grow.refl _ _ _, rfl, hr⟩
  | some d =>
    obtain ⟨ls, h1, h2⟩ := put_run hr
    rcases Nat.lt_or_ge d n with hd | hd
    · exact ⟨_, _, hC.put hd h1, Grow.retag _ _ _ _, rfl, h2⟩
    · refine ⟨E, σ, ?_, Grow.refl _ _ _, rfl, ?_⟩
      · simp only [putL]; rw [List.set_eq_of_length_le (by rw [hC.tl]; exact hd)]; exact hC.pop
      · have : σ.setS d (v.withLeaves ls) = σ := by
          simp only [St.setS]; rw [List.set_eq_of_length_le (by rw [hC.sl]; exact hd)]
        rw [this] at h2; exact h2
theorem put_toList (a : Act) (d : Option Nat) (x : Value) : (a.put d x).tmps.toList = putL a.tmps.toList d x := by
  cases d <;> simp [Act.put, putL]
theorem put_defers (a : Act) (d : Option Nat) (x : Value) : (a.put d x).defers = a.defers := by cases d <;> rfl
theorem value_end {o : Oper} {a : Act} {w w1 : World} {next : Act → World → Prop} {Q : Exit → Act → World → Prop} {E1 : Env} {σ1 : St} {v : V} {x : Value}
    (hC : CoreS n E1 σ1 [v] a.tmps.toList [x] w1.heap) (hG : Grow base E w.heap E1 w1.heap) (hW : WSame w w1) (hr : (putO o.dst v .ret).run σ1 = some σ') (K : NextOk n base E σ' a w next)
    (hx : (execOp a.eval o).run P w = .ok (.value x) w1) : o.upon P a next Q ((execOp a.eval o).run P w) := by
  rw [hx, Oper.upon_value]
  obtain ⟨E2, σ2, h1, h2, _, h3⟩ := putO_sound (base := base) (hs := []) (xs := []) hC hr
  cases h3
  exact K E2 _ w1 (by rw [put_toList]; exact h1) (hG.trans h2) hW (put_defers _ _ _)
end
end Go.Vq
namespace Go.Vq
section
variable {P : Program} {n base : Nat} {E E' : Env} {σ σ' : St} {hs : List V} {ts xs : List Value} {H H' : Array Go.Obj}
theorem borrow1_rel {slots : List V} {objs : List (Option Obj)} {vals : List Value} {h h' : Home} {u : V} {y : Value} (hv : RelV E slots objs vals H h u y) (hy : hd E vals H h = some y) :
    RelV E slots objs vals H h' (borrow1 h u) y := by
  cases u with
  | xsl g sz es =>
    obtain ⟨a, cap, e1, e2, e3, e4, e5, e6⟩ := hv
    refine ⟨a, cap, e1, e2, e3, e4, fun _ => ⟨a, es.length, cap, by rw [hy, e1], fun hc => ?_⟩⟩
    obtain ⟨ad, arr, T, f, f1, _⟩ := e5 hc
    subst f1
    refine ⟨ad, rfl, ?_, by omega⟩
    have := e4 ad rfl
    cases ad; simp_all
  | fsl g sz es =>
    obtain ⟨a, cap, e1, e2, e3, e4, e5, e6⟩ := hv
    refine ⟨a, cap, e1, e2, e3, e4, fun _ => ⟨a, es.length, cap, by rw [hy, e1], fun hc => ?_⟩⟩
    obtain ⟨ad, arr, T, f, f1, _⟩ := e5 hc
    subst f1
    refine ⟨ad, rfl, ?_, by omega⟩
    have := e4 ad rfl
    cases ad; simp_all
  | isl g sz es =>
    simp only [RelV, borrow1] at hv ⊢
    cases hv with
    | isl _ _ _ a cap xs hc ha hsp hz hx h => exact .isl _ _ _ a cap xs hc ha hsp hz hx h
  | gone g => trivial
  | _ => exact hv.move (fun _ _ h => ⟨h, rfl⟩) (fun h => by simp [V.own] at h) (fun h => by simp [V.own] at h) (fun _ _ h => ⟨rfl, h⟩) (fun _ _ _ _ h => ⟨rfl, h⟩) fun _ _ _ h => ⟨h, rfl⟩
theorem borrow1_leaf {h : Home} {u : V} (hl : u.leaf = true) : (borrow1 h u).leaf = true := by cases u <;> first | rfl | exact hl
theorem borrow1_own (h : Home) (u : V) : (borrow1 h u).own = false := by cases u <;> rfl
theorem borrow1_refs (h : Home) (u : V) : ∀ r ∈ (borrow1 h u).refs1, r ∈ u.refs1 ∨ (r.1 = h ∧ r.2 < u.nextg) := by
  intro r hr
  cases u <;> first
    | exact .inl hr
    | (simp only [borrow1, V.refs1, List.mem_singleton] at hr; subst hr; exact .inr ⟨rfl, by simp [V.nextg]⟩)
    | (simp [borrow1, V.refs1] at hr; done)
theorem borrows_get : ∀ (mk : Nat → Home) (j : Nat) (vs : List V) (i : Nat), (borrows mk j vs)[i]? = (vs[i]?).map (borrow1 (mk (j + i)))
  | _, _, [], i => by simp [borrows]
  | mk, j, v :: vs, 0 => by simp [borrows]
  | mk, j, v :: vs, i + 1 => by simp only [borrows, List.getElem?_cons_succ]; rw [borrows_get mk (j + 1) vs i, show j + 1 + i = j + (i + 1) by omega]
theorem borrows_len : ∀ (mk : Nat → Home) (j : Nat) (vs : List V), (borrows mk j vs).length = vs.length
  | _, _, [] => rfl
  | mk, j, v :: vs => by simp [borrows, borrows_len]
theorem CoreS.borrow (hC : CoreS n E σ hs ts xs H) {t : Nat} : CoreS n E σ (hs ++ [(σ.slot t).borrow (.slot t)]) ts (xs ++ [ts.getD t undef]) H := by
  by_cases ht : t < n
  · have hS := hC.slotRel ht
    have hrf := hC.slotRefs t
    generalize hv : σ.slot t = v at *
    have hlf : ∀ u ∈ borrows (.slot t) 0 v.leaves, u.leaf = true := by
      intro u hu
      obtain ⟨i, hi, rfl⟩ := List.getElem_of_mem hu
      have h1 := borrows_get (.slot t) 0 v.leaves i
      rw [List.getElem?_eq_getElem hi] at h1
      obtain ⟨z, hz, hz'⟩ := Option.map_eq_some_iff.1 h1.symm
      rw [← hz']; exact borrow1_leaf (hS.leafs z (List.mem_of_getElem? hz))
    have hwl : (v.borrow (.slot t)).leaves = borrows (.slot t) 0 v.leaves := withLeaves_leaves hS.formed (borrows_len _ _ _) hlf
    refine hC.push ?_ ⟨?_, fun i u y hu hy => ?_⟩ ?_
    · rw [hwl]
      intro u hu
      obtain ⟨i, hi, rfl⟩ := List.getElem_of_mem hu
      have h1 := borrows_get (.slot t) 0 v.leaves i
      rw [List.getElem?_eq_getElem hi] at h1
      obtain ⟨z, hz, hz'⟩ := Option.map_eq_some_iff.1 h1.symm
      rw [← hz']; exact borrow1_own _ _
    · by_cases hg : ∃ g, v = .gone g
      · obtain ⟨g, rfl⟩ := hg; trivial
      · exact withLeaves_shape hS.formed (borrows_len _ _ _) hlf hS.1 fun g e => hg ⟨g, e⟩
    · rw [hwl, borrows_get] at hu
      obtain ⟨z, hz, rfl⟩ := Option.map_eq_some_iff.1 hu
      rw [Nat.zero_add]
      refine borrow1_rel (hS.2 i z y hz hy) ?_
      obtain ⟨x', hx'⟩ := exists_getElem? (l := ts) (i := t) (hC.tl ▸ ht)
      rw [getD_of_getElem? hx'] at hy
      simp only [hd, List.getElem?_append_left (lt_of_getElem? hx'), hx', Option.bind_some]; exact hy
    · intro r hr
      rw [refs_of_leaves hwl, List.mem_flatMap] at hr
      obtain ⟨u, hu, hr⟩ := hr
      obtain ⟨i, hi, rfl⟩ := List.getElem_of_mem hu
      have h1 := borrows_get (.slot t) 0 v.leaves i
      rw [List.getElem?_eq_getElem hi] at h1
      obtain ⟨z, hz, hz'⟩ := Option.map_eq_some_iff.1 h1.symm
      rw [← hz'] at hr
      rcases borrow1_refs _ _ r hr with h2 | ⟨h2, h3⟩
      · exact hrf r (mem_refs hz h2)
      · refine ⟨fun t' i' e => by rw [h2] at e; cases e; exact ht, z, ?_, h3⟩
        rw [h2, ct_append_left _ _ _ _ _ (hC.sl ▸ ht), Nat.zero_add]
        show (σ.slot t).leaves[i]? = some z
        rw [hv]; exact hz
  · have e : (σ.slot t).borrow (.slot t) = .gone 0 := by rw [hC.slotBig ht]; rfl
    rw [e]
    exact hC.push (by simp [V.own]) ⟨trivial, fun i u y hu _ => by cases i with | zero => simp at hu; subst hu; trivial | succ i => simp at hu⟩ (by intro r hr; simp [V.refs, V.refs1] at hr)
theorem CoreS.pushOpd {o : Opd} {x : Value} {v : V} (hC : CoreS n E σ hs ts xs H) (hv : ∃ s, SlotRel E (σ.slots ++ hs) σ.objs (ts ++ xs) H s v x ∧ ∀ t, o = .tmp t → t < n → s = t)
    (hrf : ∀ r ∈ v.refs, (∀ t i, r.1 = .slot t i → t < n) ∧ ∃ u, ct (σ.slots ++ hs) σ.objs r.1 = some u ∧ r.2 < u.nextg) (hno : ∀ u ∈ v.leaves, u.own = false) : CoreS n E σ (hs ++ [v]) ts (xs ++ [x]) H := by
  obtain ⟨s, hS, _⟩ := hv
  exact hC.push hno (slotRel_any hS hno 0) hrf
variable {callee : Callee} {o : Oper} {a : Act} {w : World} {next : Act → World → Prop} {Q : Exit → Act → World → Prop}
theorem plain_no {v : V} (h : v.plain = true) : ∀ u ∈ v.leaves, u.own = false := by rw [leaves_leaf (plain_leaf h).1]; simp [(plain_leaf h).2.1]
theorem op_move {x : Operand} {x' : Opd} (ho : o.op = .move x) (hx : opd P o.type x = some x') (hC : CoreS n E σ [] a.tmps.toList [] w.heap)
    (hr : (opProg callee base o.dst (.move x')).run σ = some σ') (K : NextOk n base E σ' a w next) : o.upon P a next Q ((execOp a.eval o).run P w) := by
  have hrun : (execOp a.eval o).run P w = .ok (.value (a.eval x)) w := by simp [execOp, ho]
  have hok := opd_ok a hx
  replace hr := opd_rel (v := .nil) hC hok hr
  obtain ⟨v, hr, hv, hrf, h1, h2⟩ := hr
  rw [Prog.run_ite] at hr
  split at hr
  · rename_i hp
    exact value_end (hC.pushOpd hv hrf (plain_no hp)) (Grow.refl _ _ _) (WSame.refl _) hr K hrun
  · by_cases ht : ∃ vs, v = .tup vs
    · obtain ⟨vs, rfl⟩ := ht
      obtain ⟨E1, σ1, a1, a2, a3, a4⟩ := grab_sound (base := base) hC hv hrf h1 h2 hok hr
      exact value_end a1 a2 (WSame.refl _) a4 K hrun
    · cases x' with
      | tmp t =>
        have e := h1 t rfl
        have hr' : (putO o.dst (v.borrow (.slot t)) .ret).run σ = some σ' := by
          cases v <;> first | exact hr | exact absurd ⟨_, rfl⟩ ht
        rw [e] at hr'
        have hb := hC.borrow (t := t)
        simp only [OpdOk] at hok
        rw [hok] at hb
        exact value_end hb (Grow.refl _ _ _) (WSame.refl _) hr' K hrun
      | val v' =>
        have hr' : (putO o.dst v .ret).run σ = some σ' := by
          cases v <;> first | exact hr | exact absurd ⟨_, rfl⟩ ht
        exact value_end (hC.pushOpd hv hrf (h2 _ rfl).2) (Grow.refl _ _ _) (WSame.refl _) hr' K hrun
theorem op_assign {x : Operand} {x' : Opd} (ho : o.op = .assign x) (hx : opd P o.type x = some x') (hC : CoreS n E σ [] a.tmps.toList [] w.heap)
    (hr : (opProg callee base o.dst (.assign x')).run σ = some σ') (K : NextOk n base E σ' a w next) : o.upon P a next Q ((execOp a.eval o).run P w) := by
  have hrun : (execOp a.eval o).run P w = .ok (.value (a.eval x)) w := by simp [execOp, ho]
  obtain ⟨E1, σ1, v, a1, a2, a3, a4⟩ := gKeep_sound (base := base) _ hC (opd_ok a hx) hr
  exact value_end a1 a2 (WSame.refl _) a4 K hrun
theorem gBool_sound {o : Opd} {x : Value} {k : Bool → Prog} (hC : CoreS n E σ hs ts xs H) (ho : OpdOk ts o x) (hr : (gBool o k).run σ = some σ') : ∃ b, x = .bool b ∧ (k b).run σ = some σ' := by
  replace hr := opd_rel (v := .nil) hC ho hr
  obtain ⟨v, hr, ⟨s, hS, hs'⟩, hrest⟩ := hr
  clear hrest hs'
  split at hr
  · rename_i b
    have h1 := leaf_shape (v := .bool b) rfl (fun g => by simp) hS.1
    have h2 := hS.2 0 (.bool b) x rfl (by rw [vleaves_leaf h1]; rfl)
    cases h2; exact ⟨b, rfl, hr⟩
  · cases hr
theorem gInt_sound {o : Opd} {x : Value} {k : Int → Prog} (hC : CoreS n E σ hs ts xs H) (ho : OpdOk ts o x) (hr : (gInt o k).run σ = some σ') : ∃ kk m, x = .int kk m ∧ (k m).run σ = some σ' := by
  replace hr := opd_rel (v := .nil) hC ho hr
  obtain ⟨v, hr, ⟨s, hS, hs'⟩, hrest⟩ := hr
  clear hrest hs'
  split at hr
  · rename_i kk m
    have h1 := leaf_shape (v := .int kk m) rfl (fun g => by simp) hS.1
    have h2 := hS.2 0 (.int kk m) x rfl (by rw [vleaves_leaf h1]; rfl)
    cases h2; exact ⟨kk, m, rfl, hr⟩
  · cases hr
theorem op_pick {c x y : Operand} {c' x' y' : Opd} (ho : o.op = .pick c x y) (hc : opd0 c = some c') (hx : opd0 x = some x') (hy : opd0 y = some y') (hC : CoreS n E σ [] a.tmps.toList [] w.heap)
    (hr : (opProg callee base o.dst (.pick c' x' y')).run σ = some σ') (K : NextOk n base E σ' a w next) : o.upon P a next Q ((execOp a.eval o).run P w) := by
  obtain ⟨b, hb, hr⟩ := gBool_sound hC (opd0_ok a hc) hr
  have hrun : (execOp a.eval o).run P w = .ok (.value (if b then a.eval x else a.eval y)) w := by
    simp only [execOp, ho, hb, asBool]
    cases b <;> simp
  have hok : OpdOk a.tmps.toList (if b then x' else y') (if b then a.eval x else a.eval y) := by
    cases b
    · exact opd0_ok a hy
    · exact opd0_ok a hx
  replace hr := opd_rel (v := .nil) hC hok hr
  obtain ⟨v, hr, hv, hrf, h1, h2⟩ := hr
  rw [Prog.run_ite] at hr
  split at hr
  · rename_i hp
    exact value_end (hC.pushOpd hv hrf (plain_no hp)) (Grow.refl _ _ _) (WSame.refl _) hr K hrun
  · cases hr
theorem rel_leaf {v : V} {x : Value} {s : Nat} {slots : List V} {objs : List (Option Obj)} {vals : List Value} (hS : SlotRel E slots objs vals H s v x) (hl : v.leaf = true) (hg : ∀ g, v ≠ .gone g) : leafX x = true ∧ RelV E slots objs vals H (.slot s 0) v x := by
  have h1 := leaf_shape hl hg hS.1
  exact ⟨h1, hS.2 0 v x (by rw [leaves_leaf hl]; rfl) (by rw [vleaves_leaf h1]; rfl)⟩
theorem op_nilCheck {x : Operand} {x' : Opd} (ho : o.op = .nilCheck x) (hx : opd0 x = some x') (hC : CoreS n E σ [] a.tmps.toList [] w.heap)
    (hr : (opProg callee base o.dst (.nilCheck x')).run σ = some σ') (K : NextOk n base E σ' a w next) : o.upon P a next Q ((execOp a.eval o).run P w) := by
  have hok := opd0_ok a hx
  replace hr := opd_rel (v := .nil) hC hok hr
  obtain ⟨v, hr, hv, hrf, h1, h2⟩ := hr
  obtain ⟨s, hS, hs'⟩ := hv
  split at hr
  · rename_i r
    obtain ⟨hl, hR⟩ := rel_leaf hS rfl (fun g => by simp)
    have hp : ∃ ad, a.eval x = .pointer (some ad) := by
      cases r with
      | obj ob off => exact ⟨_, hR.1⟩
      | elem h g sz i off => obtain ⟨ad, h, _⟩ := hR; exact ⟨ad, h⟩
    obtain ⟨ad, hp⟩ := hp
    exact value_end (hC.pushOpd ⟨s, hS, hs'⟩ hrf (by simp [leaves_leaf (v := .ptr r) rfl, V.own])) (Grow.refl _ _ _) (WSame.refl _) hr K (by simp [execOp, ho, hp])
  · rename_i cs
    obtain ⟨hl, hR⟩ := rel_leaf hS rfl (fun g => by simp)
    obtain ⟨ad, hp, _⟩ := hR
    exact value_end (hC.pushOpd ⟨s, hS, hs'⟩ hrf (by simp [leaves_leaf (v := .iptr cs) rfl, V.own])) (Grow.refl _ _ _) (WSame.refl _) hr K (by simp [execOp, ho, hp])
  · rename_i f cs
    obtain ⟨hl, hR⟩ := rel_leaf hS rfl (fun g => by simp)
    have hp : ∃ ys, a.eval x = .func (.func f) #[] ys := by
      generalize a.eval x = y at hR
      cases hR with
      | imm _ _ h => cases h
      | func _ _ xs hn h => exact ⟨xs, rfl⟩
    obtain ⟨ys, hp⟩ := hp
    exact value_end (hC.pushOpd ⟨s, hS, hs'⟩ hrf (by simp [leaves_leaf (v := .func f cs) rfl, V.own])) (Grow.refl _ _ _) (WSame.refl _) hr K (by simp [execOp, ho, hp])
  · cases hr
end
end Go.Vq
namespace Go.Vq
section
variable {P : Program} {n base : Nat} {E E' : Env} {σ σ' : St} {hs : List V} {ts xs : List Value} {H H' : Array Go.Obj}
variable {callee : Callee} {o : Oper} {a : Act} {w : World} {next : Act → World → Prop} {Q : Exit → Act → World → Prop}
def V.toVal : V → Option Value
  | .bool b => some (.bool b)
  | .int k n => some (.int k n)
  | .str s => some (.string ⟨s.toArray⟩)
  | .nil => some (.pointer none)
  | .nilf => some .nilFunc
  | .nilm => some (.map none)
  | .nili => some .nilIface
  | .nilS _ => some (.slice none 0 0)
  | _ => none
theorem toVal_rel {v : V} {y : Value} (h : v.toVal = some y) (imm : Nat → Nat → Prop) (H : Array Go.Obj) : RelI imm H v y := by
  cases v <;> simp only [V.toVal, Option.some.injEq, reduceCtorEq] at h <;> subst h <;> constructor
theorem toVal_plain {v : V} {y : Value} (h : v.toVal = some y) : v.plain = true ∧ leafX y = true := by
  cases v <;> simp only [V.toVal, Option.some.injEq, reduceCtorEq] at h <;> subst h <;> exact ⟨rfl, rfl⟩
theorem relI_toVal {imm : Nat → Nat → Prop} {v : V} {x y : Value} (hr : RelI imm H v x) (h : v.toVal = some y) : x = y := by
  cases hr <;> simp only [V.toVal, Option.some.injEq, reduceCtorEq] at h <;> exact h
theorem relV_plain {slots : List V} {objs : List (Option Obj)} {vals : List Value} {h : Home} {v : V} {x : Value} (hp : v.plain = true) : RelV E slots objs vals H h v x ↔ RelI E.imm H v x := by
  cases v <;> first | rfl | simp [V.plain] at hp
theorem plain_toVal {v : V} (h : v.plain = true) : ∃ y, v.toVal = some y := by
  cases v <;> first | exact ⟨_, rfl⟩ | simp [V.plain] at h
theorem relV_toVal {slots : List V} {objs : List (Option Obj)} {vals : List Value} {h : Home} {v : V} {x y : Value} (hr : RelV E slots objs vals H h v x) (hy : v.toVal = some y) : x = y :=
  relI_toVal ((relV_plain (toVal_plain hy).1).1 hr) hy
theorem slot_toVal {slots : List V} {objs : List (Option Obj)} {vals : List Value} {s : Nat} {v : V} {x y : Value} (hS : SlotRel E slots objs vals H s v x) (hy : v.toVal = some y) : x = y := by
  have hp := plain_leaf (toVal_plain hy).1
  have hg : ∀ g, v ≠ .gone g := by rintro g rfl; cases hy
  exact relV_toVal (rel_leaf hS hp.1 hg).2 hy
theorem CoreS.pushPlain (hC : CoreS n E σ hs ts xs H) {v : V} {y : Value} (hy : v.toVal = some y) : CoreS n E σ (hs ++ [v]) ts (xs ++ [y]) H := by
  obtain ⟨hp, hl⟩ := toVal_plain hy
  have hpl := plain_leaf hp
  refine hC.push (plain_no hp) ⟨shape_leaf hpl.1 hl, fun i u z hu hz => ?_⟩ (by rw [V.refs, leaves_leaf hpl.1]; simp [hpl.2.2.1])
  rw [leaves_leaf hpl.1] at hu; rw [vleaves_leaf hl] at hz
  cases i with
  | zero => simp at hu hz; subst hu hz; exact (relV_plain hp).2 (toVal_rel hy _ _)
  | succ i => simp at hu
theorem plain_end {v : V} {y : Value} (hC : CoreS n E σ [] a.tmps.toList [] w.heap) (hy : v.toVal = some y) (hr : (putO o.dst v .ret).run σ = some σ') (K : NextOk n base E σ' a w next)
    (hx : (execOp a.eval o).run P w = .ok (.value y) w) : o.upon P a next Q ((execOp a.eval o).run P w) :=
  value_end (hC.pushPlain hy) (Grow.refl _ _ _) (WSame.refl _) hr K hx
theorem bitsV_run {op : BinOp} {k : IntKind} {x y r : Int} (h : bitsV op k x y = some r) : (Op.intBits op k x y).run P w = .ok (.int k r) w := by
  cases op <;> simp [bitsV] at h <;> subst h <;> simp [Op.intBits]
theorem size_mk (l : List UInt8) : (ByteArray.mk l.toArray).size = l.length := by simp [ByteArray.size]
theorem append_mk (a b : List UInt8) : ByteArray.mk a.toArray ++ ByteArray.mk b.toArray = ByteArray.mk (a ++ b).toArray := by
  apply ByteArray.ext
  simp [ByteArray.data_append]
theorem eqGuard_skip {op : BinOp} {t : TypeId} {x y : Operand} {u v : Value} (h : op ≠ .eql ∧ op ≠ .neq) : (eqGuard op t x y u v).run P w = .ok () w := by
  cases op <;> first | (simp at h; done) | simp [eqGuard]
theorem eqGuard_plain {op : BinOp} {t : TypeId} {x y : Operand} {u v : Value} (h : leafX u = true) (hn : u ≠ .nilIface) : (eqGuard op t x y u v).run P w = .ok () w := by
  cases op <;> cases u <;> first | (simp [leafX] at h; done) | exact absurd rfl hn | (cases v <;> simp [eqGuard])
theorem binV_run {op : BinOp} {t : TypeId} {u v r : V} {xu xv : Value} (hu : u.toVal = some xu) (hv : v.toVal = some xv) (h : binV op u v = some r) :
    ∃ yr, r.toVal = some yr ∧ (Go.binOp op t xu xv).run P w = .ok yr w := by
  unfold binV at h
  split at h
  all_goals (try simp only [V.toVal, Option.some.injEq, reduceCtorEq] at hu hv)
  all_goals (try subst hu)
  all_goals (try subst hv)
  case h_1 => split at h; · cases h
              · cases h; exact ⟨_, rfl, by simp [Go.binOp, Op.shift, *]⟩
  case h_2 => split at h; · cases h
              · cases h; exact ⟨_, rfl, by simp [Go.binOp, Op.shift, *]⟩
  case h_3 => split at h
              · rename_i hk; subst hk; cases h; exact ⟨_, rfl, by simp [Go.binOp, Op.intArith]⟩
              · cases h
  case h_4 => split at h
              · rename_i hk; subst hk; cases h; exact ⟨_, rfl, by simp [Go.binOp, Op.intArith]⟩
              · cases h
  case h_5 => split at h
              · rename_i hk; subst hk; cases h; exact ⟨_, rfl, by simp [Go.binOp, Op.intArith]⟩
              · cases h
  case h_6 => split at h
              · rename_i hk; subst hk
                split at h
                · cases h
                · cases h; exact ⟨_, rfl, by simp [Go.binOp, Op.intDiv, *]⟩
              · cases h
  case h_7 => split at h
              · rename_i hk; subst hk
                split at h
                · cases h
                · cases h; exact ⟨_, rfl, by simp [Go.binOp, Op.intDiv, *]⟩
              · cases h
  case h_8 => split at h
              · rename_i hk; subst hk; cases h; exact ⟨_, rfl, by simp [Go.binOp, Op.intCmp]⟩
              · cases h
  case h_9 => split at h
              · rename_i hk; subst hk; cases h; exact ⟨_, rfl, by simp [Go.binOp, Op.intCmp]⟩
              · cases h
  case h_10 => split at h
               · rename_i hk; subst hk; cases h; exact ⟨_, rfl, by simp [Go.binOp, Op.intCmp]⟩
               · cases h
  case h_11 => split at h
               · rename_i hk; subst hk; cases h; exact ⟨_, rfl, by simp [Go.binOp, Op.intCmp]⟩
               · cases h
  case h_12 => split at h
               · rename_i la lb hlen
                 cases h
                 refine ⟨_, rfl, ?_⟩
                 have h1 : ¬ ((ByteArray.size (⟨List.toArray la⟩ : ByteArray) + ByteArray.size (⟨List.toArray lb⟩ : ByteArray) : Nat) : Int) > IntKind.i64.max := by
                   rw [size_mk, size_mk]
                   have : IntKind.i64.max = 9223372036854775807 := by decide
                   omega
                 simp only [Go.binOp, Op.stringOp]
                 rw [if_neg h1]
                 simp [append_mk]
               · cases h
  case h_13 => cases h; exact ⟨_, rfl, by simp [Go.binOp, Op.stringOp]⟩
  case h_14 => cases h; exact ⟨_, rfl, by simp [Go.binOp, Op.stringOp]⟩
  case h_15 => cases h; exact ⟨_, rfl, by simp [Go.binOp, Op.stringOp]⟩
  case h_16 => cases h; exact ⟨_, rfl, by simp [Go.binOp, Op.stringOp]⟩
  case h_17 => split at h
               · rename_i hk; subst hk
                 obtain ⟨r', hr', rfl⟩ := Option.map_eq_some_iff.1 h
                 exact ⟨_, rfl, by simp only [Go.binOp]; simp only [ne_eq, not_true_eq_false, if_false]; exact bitsV_run hr'⟩
               · cases h
  case h_18 => split at h
               · rename_i hk; subst hk
                 obtain ⟨r', hr', rfl⟩ := Option.map_eq_some_iff.1 h
                 exact ⟨_, rfl, by simp only [Go.binOp]; simp only [ne_eq, not_true_eq_false, if_false]; exact bitsV_run hr'⟩
               · cases h
  case h_19 => split at h
               · rename_i hk; subst hk
                 obtain ⟨r', hr', rfl⟩ := Option.map_eq_some_iff.1 h
                 exact ⟨_, rfl, by simp only [Go.binOp]; simp only [ne_eq, not_true_eq_false, if_false]; exact bitsV_run hr'⟩
               · cases h
  case h_20 => split at h
               · rename_i hk; subst hk
                 obtain ⟨r', hr', rfl⟩ := Option.map_eq_some_iff.1 h
                 exact ⟨_, rfl, by simp only [Go.binOp]; simp only [ne_eq, not_true_eq_false, if_false]; exact bitsV_run hr'⟩
               · cases h
  case h_21 => cases h
theorem unV_run {op : UnOp} {u r : V} {xu : Value} (hu : u.toVal = some xu) (h : unV op u = some r) : ∃ yr, r.toVal = some yr ∧ (Op.unary op xu).run P w = .ok yr w := by
  unfold unV at h
  split at h
  all_goals (try simp only [V.toVal, Option.some.injEq, reduceCtorEq] at hu)
  all_goals (try subst hu)
  · cases h; exact ⟨_, rfl, by simp [Op.unary]⟩
  · cases h; exact ⟨_, rfl, by simp [Op.unary, Op.intArith]⟩
  · obtain ⟨r', hr', rfl⟩ := Option.map_eq_some_iff.1 h
    exact ⟨_, rfl, by simp only [Op.unary]; exact bitsV_run hr'⟩
  · cases h
theorem optV_run {v : Option V} {k : V → Prog} (hr : (optV v k).run σ = some σ') : ∃ u, v = some u ∧ (k u).run σ = some σ' := by
  cases v with
  | none => cases hr
  | some u => exact ⟨u, rfl, hr⟩
theorem binV_plain {op : BinOp} {u v r : V} (h : binV op u v = some r) : (∃ x, u.toVal = some x) ∧ ∃ y, v.toVal = some y := by
  unfold binV at h
  split at h <;> first | exact ⟨⟨_, rfl⟩, ⟨_, rfl⟩⟩ | cases h
theorem unV_plain {op : UnOp} {u r : V} (h : unV op u = some r) : ∃ x, u.toVal = some x := by
  unfold unV at h
  split at h <;> first | exact ⟨_, rfl⟩ | cases h
theorem op_bin {op : BinOp} {t t' : TypeId} {x y : Operand} {x' y' : Opd} (ho : o.op = .binOp op t x y t') (hne : op ≠ .eql ∧ op ≠ .neq) (hx : opd0 x = some x') (hy : opd0 y = some y') (hC : CoreS n E σ [] a.tmps.toList [] w.heap)
    (hr : (opProg callee base o.dst (.bin op x' y')).run σ = some σ') (K : NextOk n base E σ' a w next) : o.upon P a next Q ((execOp a.eval o).run P w) := by
  obtain ⟨u, hr, ⟨s, hS, _⟩, _⟩ := opd_rel (v := .nil) hC (opd0_ok a hx) hr
  obtain ⟨v, hr, ⟨s2, hS2, _⟩, _⟩ := opd_rel (v := .nil) hC (opd0_ok a hy) hr
  obtain ⟨r, hbin, hr⟩ := optV_run hr
  obtain ⟨⟨xu, hu⟩, ⟨xv, hv⟩⟩ := binV_plain hbin
  obtain ⟨yr, hyr, hrun⟩ := binV_run (P := P) (w := w) (t := t) hu hv hbin
  have e1 := slot_toVal hS hu
  have e2 := slot_toVal hS2 hv
  refine plain_end hC hyr hr K ?_
  simp only [execOp, ho, e1, e2]
  simp [eqGuard_skip hne, hrun]
theorem op_un {op : UnOp} {t : TypeId} {x : Operand} {x' : Opd} (ho : o.op = .unOp op t x) (hx : opd0 x = some x') (hC : CoreS n E σ [] a.tmps.toList [] w.heap)
    (hr : (opProg callee base o.dst (.un op x')).run σ = some σ') (K : NextOk n base E σ' a w next) : o.upon P a next Q ((execOp a.eval o).run P w) := by
  obtain ⟨u, hr, ⟨s, hS, _⟩, _⟩ := opd_rel (v := .nil) hC (opd0_ok a hx) hr
  obtain ⟨r, hun, hr⟩ := optV_run hr
  obtain ⟨xu, hu⟩ := unV_plain hun
  obtain ⟨yr, hyr, hrun⟩ := unV_run (P := P) (w := w) hu hun
  have e1 := slot_toVal hS hu
  refine plain_end hC hyr hr K ?_
  simp only [execOp, ho, e1]
  simp [hrun]
end
end Go.Vq
