/- A machine of values and its tie to the model, and runs of it: part 2 of 18 (no law of Go is stated here). -/
import Derived.Test.YtbbpandancpibaaF1
set_option linter.unusedVariables false
set_option linter.unusedSimpArgs false
set_option linter.unusedSectionVars false
namespace Go.Vq
theorem getD_append_left {α : Type} (l m : List α) (d : α) (i : Nat) (h : i < l.length) : (l ++ m).getD i d = l.getD i d := by
  simp [List.getD, List.getElem?_append_left h]
theorem getD_of_getElem? {α : Type} {l : List α} {d x : α} {i : Nat} (h : l[i]? = some x) : l.getD i d = x := by simp [List.getD, h]
theorem lt_of_getElem? {α : Type} {l : List α} {x : α} {i : Nat} (h : l[i]? = some x) : i < l.length := by
  rcases Nat.lt_or_ge i l.length with h1 | h1
  · exact h1
  · simp [List.getElem?_eq_none h1] at h
theorem exists_getElem? {α : Type} {l : List α} {i : Nat} (h : i < l.length) : ∃ x, l[i]? = some x := ⟨l[i], List.getElem?_eq_getElem h⟩
theorem getElem?_append_one {α : Type} {l : List α} {v x : α} {s : Nat} (h : (l ++ [v])[s]? = some x) : (s < l.length ∧ l[s]? = some x) ∨ (s = l.length ∧ x = v) := by
  rcases Nat.lt_trichotomy s l.length with h1 | h1 | h1
  · rw [List.getElem?_append_left h1] at h; exact .inl ⟨h1, h⟩
  · subst h1; simp at h; exact .inr ⟨rfl, h.symm⟩
  · rw [List.getElem?_eq_none (by simp; omega)] at h; cases h
@[simp] theorem leaves_gone (g : Nat) : (V.gone g).leaves = [.gone g] := rfl
theorem ct_slot_big {slots : List V} {objs : List (Option Obj)} {s i : Nat} {u : V} (h : slots.length ≤ s) (hu : ct slots objs (.slot s i) = some u) : u = .gone 0 := by
  simp only [ct, List.getD, List.getElem?_eq_none h, Option.getD_none, leaves_gone] at hu
  cases i with
  | zero => simpa using hu.symm
  | succ i => simp at hu
theorem ct_append_left (slots l : List V) (objs : List (Option Obj)) (s i : Nat) (h : s < slots.length) : ct (slots ++ l) objs (.slot s i) = ct slots objs (.slot s i) := by
  simp only [ct, getD_append_left _ _ _ _ h]
theorem hd_append_left (E : Env) (vals l : List Value) (H : Array Go.Obj) (s i : Nat) (h : s < vals.length) : hd E (vals ++ l) H (.slot s i) = hd E vals H (.slot s i) := by
  simp only [hd, List.getElem?_append_left h]
theorem ct_set (slots : List V) (objs : List (Option Obj)) (t : Nat) (v : V) (s i : Nat) (ht : t < slots.length) :
    ct (slots.set t v) objs (.slot s i) = if s = t then v.leaves[i]? else ct slots objs (.slot s i) := by
  simp only [ct, List.getD, List.getElem?_set]
  by_cases h : t = s
  · subst h; simp [ht]
  · have h' : ¬ s = t := fun e => h e.symm
    simp [h, h']
theorem hd_set (E : Env) (vals : List Value) (H : Array Go.Obj) (t : Nat) (x : Value) (s i : Nat) (ht : t < vals.length) :
    hd E (vals.set t x) H (.slot s i) = if s = t then (vleaves x)[i]? else hd E vals H (.slot s i) := by
  simp only [hd, List.getElem?_set]
  by_cases h : t = s
  · subst h; simp [ht]
  · have h' : ¬ s = t := fun e => h e.symm
    simp [h, h']
theorem ct_getElem? {slots : List V} {objs : List (Option Obj)} {s : Nat} {v : V} (h : slots[s]? = some v) (i : Nat) : ct slots objs (.slot s i) = v.leaves[i]? := by
  simp only [ct, getD_of_getElem? h]
def HomesKept (n : Nat) (E : Env) (slots : List V) (objs : List (Option Obj)) (vals : List Value) (H : Array Go.Obj)
    (E' : Env) (slots' : List V) (objs' : List (Option Obj)) (vals' : List Value) (H' : Array Go.Obj) : Prop :=
  ∀ h u, (∀ t i, h = .slot t i → t < n) → ct slots objs h = some u → 0 < u.nextg → ∃ u', ct slots' objs' h = some u' ∧ u.nextg ≤ u'.nextg ∧
    ((u'.gen? = u.gen? ∧ hd E' vals' H' h = hd E vals H h) ∨ ∀ g sz, u'.gen? = some (g, sz) → u.nextg ≤ g)
section
variable {n : Nat} {E E' : Env} {slots slots' : List V} {objs objs' : List (Option Obj)} {vals vals' : List Value} {H H' : Array Go.Obj}
theorem HomesKept.c4 (hk : HomesKept n E slots objs vals H E' slots' objs' vals' H') {r : Home × Nat}
    (hr : (∀ t i, r.1 = .slot t i → t < n) ∧ ∃ u, ct slots objs r.1 = some u ∧ r.2 < u.nextg) (sz : Nat) (hv : valid slots' objs' r.1 r.2 sz) :
    valid slots objs r.1 r.2 sz ∧ hd E' vals' H' r.1 = hd E vals H r.1 := by
  obtain ⟨hn, u, hu, hlt⟩ := hr
  obtain ⟨u', hu', hg'⟩ := hv
  obtain ⟨w, hw, _, h | h⟩ := hk r.1 u hn hu (by omega)
  · rw [hu'] at hw; cases hw
    exact ⟨⟨u, hu, h.1 ▸ hg'⟩, h.2⟩
  · rw [hu'] at hw; cases hw
    have := h _ _ hg'; omega
theorem HomesKept.bound (hk : HomesKept n E slots objs vals H E' slots' objs' vals' H') {r : Home × Nat}
    (hr : (∀ t i, r.1 = .slot t i → t < n) ∧ ∃ u, ct slots objs r.1 = some u ∧ r.2 < u.nextg) : ∃ u, ct slots' objs' r.1 = some u ∧ r.2 < u.nextg := by
  obtain ⟨hn, u, hu, hlt⟩ := hr
  obtain ⟨w, hw, hle, _⟩ := hk r.1 u hn hu (by omega)
  exact ⟨w, hw, by omega⟩
theorem mem_refs {v u : V} {i : Nat} {r : Home × Nat} (h : v.leaves[i]? = some u) (hr : r ∈ u.refs1) : r ∈ v.refs := by
  simp only [V.refs, List.mem_flatMap]
  exact ⟨u, List.mem_of_getElem? h, hr⟩
theorem Core.leaf (hC : Core n E slots objs vals H) (hk : HomesKept n E slots objs vals H E' slots' objs' vals' H') (c1 : ∀ b i, E.imm b i → E'.imm b i ∧ cellAt H' b i = cellAt H b i)
    (ca : E'.addr = E.addr) {s i : Nat} {v u : V} {x y : Value} {h' : Home}
    (hs : slots[s]? = some v) (hx : vals[s]? = some x) (hu : v.leaves[i]? = some u) (hy : (vleaves x)[i]? = some y)
    (c2 : u.own = true → ∀ b, E.tag b = .home (.slot s i) → E'.tag b = .home h' ∧ H'[b]? = H[b]?)
    (c2' : u.own = true → ∀ b n, E.tag b = .tail (.slot s i) n → E'.tag b = .tail h' n ∧ H'[b]? = H[b]?)
    (cal : ∀ o, alive objs o → alive objs' o := by first | exact fun _ h => h | exact fun _ h => alive_setObjs' h | exact fun _ h => alive_set h) : RelV E' slots' objs' vals' H' h' u y :=
  ((hC.slot s v x hs hx).2 i u y hu hy).move c1 c2 c2' (fun o _ h => ⟨by rw [ca], cal o h⟩) (fun o _ _ _ h => ⟨by rw [ca], cal o h⟩) fun r hr sz hvl =>
    hk.c4 (hC.refs s v hs r (mem_refs hu hr)) sz hvl
theorem Core.objKept (hC : Core n E slots objs vals H) (c1 : ∀ b i, E.imm b i → E'.imm b i ∧ cellAt H' b i = cellAt H b i)
    (ca : E'.addr = E.addr) {o : Nat} {cs : List V} (ho : objs[o]? = some (some (.cells cs)))
    (c0 : E.tag (E.addr o) = .obj o → E'.tag (E.addr o) = .obj o ∧ H'[E.addr o]? = H[E.addr o]?)
    (c2 : ∀ i u, cs[i]? = some u → u.own = true → ∀ b, E.tag b = .home (.obj o i) → E'.tag b = .home (.obj o i) ∧ H'[b]? = H[b]?)
    (c2' : ∀ i u, cs[i]? = some u → u.own = true → ∀ b n, E.tag b = .tail (.obj o i) n → E'.tag b = .tail (.obj o i) n ∧ H'[b]? = H[b]?)
    (cal : ∀ o, alive objs o → alive objs' o := by first | exact fun _ h => h | exact fun _ h => alive_setObjs' h | exact fun _ h => alive_set h) :
    ∃ arr T f, H'[E'.addr o]? = some (.cells arr T f) ∧ E'.tag (E'.addr o) = .obj o ∧ arr.size = cs.length ∧ open_ f arr.size ∧
      (∀ (i : Nat) (u : V) (y : Value), cs[i]? = some u → arr[i]? = some y → RelV E' slots' objs' vals' H' (.obj o i) u y) ∧ ∀ u ∈ cs, u.inObj = true := by
  obtain ⟨arr, T, f, h1, h2, h3, h4, h5, h6⟩ := hC.obj o cs ho
  refine ⟨arr, T, f, ?_, ?_, h3, h4, fun i u y hu hy => ?_, h6⟩
  · rw [ca, (c0 h2).2]; exact h1
  · rw [ca]; exact (c0 h2).1
  · refine (h5 i u y hu hy).move c1 (fun ho b => c2 i u hu ho b) (fun ho b => c2' i u hu ho b) (fun o _ h => ⟨by rw [ca], cal o h⟩) (fun o _ _ _ h => ⟨by rw [ca], cal o h⟩) fun r hr => ?_
    rw [V.inObj_refs1 (h6 u (List.mem_of_getElem? hu))] at hr; cases hr
theorem HomesKept.push (hC : Core n E slots objs vals H) (v : V) (x : Value) : HomesKept n E slots objs vals H E (slots ++ [v]) objs (vals ++ [x]) H := by
  intro h u _ hu hp
  refine ⟨u, ?_, Nat.le_refl _, .inl ⟨rfl, ?_⟩⟩
  · cases h with
    | slot s i =>
      rcases Nat.lt_or_ge s slots.length with hs | hs
      · rw [ct_append_left _ _ _ _ _ hs]; exact hu
      · have := ct_slot_big hs hu; subst this; simp [V.nextg] at hp
    | obj o i => exact hu
  · cases h with
    | slot s i =>
      rcases Nat.lt_or_ge s slots.length with hs | hs
      · exact hd_append_left _ _ _ _ _ _ (hC.len ▸ hs)
      · have := ct_slot_big hs hu; subst this; simp [V.nextg] at hp
    | obj o i => rfl
theorem Core.push (hC : Core n E slots objs vals H) {v : V} {x : Value} (hv : SlotRel E (slots ++ [v]) objs (vals ++ [x]) H slots.length v x)
    (hr : ∀ r ∈ v.refs, (∀ t i, r.1 = .slot t i → t < n) ∧ ∃ u, ct slots objs r.1 = some u ∧ r.2 < u.nextg) : Core n E (slots ++ [v]) objs (vals ++ [x]) H := by
  have hk := HomesKept.push hC v x
  refine ⟨by simp [hC.len], by have := hC.real; simp; omega, fun s u y hs hy => ?_, fun o cs ho => ?_, hC.fresh, fun s u hs r hr' => ?_⟩
  · rcases getElem?_append_one hs with ⟨h1, h2⟩ | ⟨h1, h2⟩
    · rw [List.getElem?_append_left (hC.len ▸ h1)] at hy
      exact ⟨(hC.slot s u y h2 hy).1, fun i u' y' hu hy' => hC.leaf hk (fun _ _ h => ⟨h, rfl⟩) rfl h2 hy hu hy' (fun _ _ h => ⟨h, rfl⟩) (fun _ _ _ h => ⟨h, rfl⟩)⟩
    · subst h1 h2
      rw [hC.len, List.getElem?_append_right (Nat.le_refl _)] at hy
      simp at hy; subst hy
      exact hv
  · exact hC.objKept (fun _ _ h => ⟨h, rfl⟩) rfl ho (fun h => ⟨h, rfl⟩) (fun _ _ _ _ _ h => ⟨h, rfl⟩) (fun _ _ _ _ _ _ h => ⟨h, rfl⟩)
  · rcases getElem?_append_one hs with ⟨h1, h2⟩ | ⟨h1, h2⟩
    · have := hC.refs s u h2 r hr'
      exact ⟨this.1, hk.bound this⟩
    · subst h2
      exact ⟨(hr r hr').1, hk.bound (hr r hr')⟩
theorem Core.pop {v : V} {x : Value} (hC : Core n E (slots ++ [v]) objs (vals ++ [x]) H) (hn : n ≤ slots.length) : Core n E slots objs vals H := by
  have hl : slots.length = vals.length := by have := hC.len; simpa using this
  have hk : HomesKept n E (slots ++ [v]) objs (vals ++ [x]) H E slots objs vals H := by
    intro h u hh hu hp
    refine ⟨u, ?_, Nat.le_refl _, .inl ⟨rfl, ?_⟩⟩
    · cases h with
      | slot s i => rw [ct_append_left _ _ _ _ _ (by have := hh s i rfl; omega)] at hu; exact hu
      | obj o i => exact hu
    · cases h with
      | slot s i => exact (hd_append_left _ _ _ _ _ _ (by have := hh s i rfl; omega)).symm
      | obj o i => rfl
  refine ⟨hl, hn, fun s u y hs hy => ?_, fun o cs ho => ?_, hC.fresh, fun s u hs r hr => ?_⟩
  · have h1 := lt_of_getElem? hs
    have hs' : (slots ++ [v])[s]? = some u := by rw [List.getElem?_append_left h1]; exact hs
    have hy' : (vals ++ [x])[s]? = some y := by rw [List.getElem?_append_left (hl ▸ h1)]; exact hy
    exact ⟨(hC.slot s u y hs' hy').1, fun i u' y' hu hy2 => hC.leaf hk (fun _ _ h => ⟨h, rfl⟩) rfl hs' hy' hu hy2 (fun _ _ h => ⟨h, rfl⟩) (fun _ _ _ h => ⟨h, rfl⟩)⟩
  · exact hC.objKept (fun _ _ h => ⟨h, rfl⟩) rfl ho (fun h => ⟨h, rfl⟩) (fun _ _ _ _ _ h => ⟨h, rfl⟩) (fun _ _ _ _ _ _ h => ⟨h, rfl⟩)
  · have hs' : (slots ++ [v])[s]? = some u := by rw [List.getElem?_append_left (lt_of_getElem? hs)]; exact hs
    have := hC.refs s u hs' r hr
    exact ⟨this.1, hk.bound this⟩
def Env.retag (E : Env) (f : Home → Home) : Env := { E with tag := fun b => match E.tag b with | .home h => .home (f h) | .tail h m => .tail (f h) m | t => t }
theorem Env.retag_imm (E : Env) (f : Home → Home) : (E.retag f).imm = E.imm := by
  funext b i
  simp only [Env.imm, Env.retag]
  cases E.tag b <;> rfl
theorem Env.retag_home {E : Env} {f : Home → Home} {b : Nat} {h : Home} (hb : E.tag b = .home h) : (E.retag f).tag b = .home (f h) := by simp [Env.retag, hb]
theorem Env.retag_tail {E : Env} {f : Home → Home} {b m : Nat} {h : Home} (hb : E.tag b = .tail h m) : (E.retag f).tag b = .tail (f h) m := by simp [Env.retag, hb]
theorem Env.retag_obj {E : Env} {f : Home → Home} {b o : Nat} (hb : E.tag b = .obj o) : (E.retag f).tag b = .obj o := by simp [Env.retag, hb]
theorem Env.retag_other {E : Env} {f : Home → Home} {b : Nat} (hb : E.tag b = .other) : (E.retag f).tag b = .other := by simp [Env.retag, hb]
theorem Env.retag_immTag {E : Env} {f : Home → Home} {b : Nat} (hb : E.tag b = .imm) : (E.retag f).tag b = .imm := by simp [Env.retag, hb]
theorem Env.retag_c1 (E : Env) (f : Home → Home) (H : Array Go.Obj) : ∀ b i, E.imm b i → (E.retag f).imm b i ∧ cellAt H b i = cellAt H b i := by
  intro b i h; rw [Env.retag_imm]; exact ⟨h, rfl⟩
def mv (t N : Nat) : Home → Home
  | .slot s i => if s = t then .slot N i else .slot s i
  | h => h
theorem RelV.leaf {h : Home} {v : V} {x : Value} (hv : RelV E slots objs vals H h v x) : v.leaf = true := by
  cases v <;> first | rfl | exact hv.elim
theorem shape1_len {v : V} {x : Value} (h : Shape1 v x) : v.cells.length = (vcells x).length := by
  by_cases hv : v.leaf = true
  · rw [cells_leaf hv, vcells_leaf ((shape1_leaf hv).1 h)]; rfl
  · cases v with
    | agg cs => obtain ⟨xs, rfl, h⟩ := h; simpa [V.cells, vcells, Value.cells] using h
    | tup vs => exact h.elim
    | _ => exact absurd rfl hv
theorem flat_len : ∀ (vs : List V) (xs : List Value), vs.length = xs.length → (∀ (i : Nat) (v : V) (x : Value), vs[i]? = some v → xs[i]? = some x → Shape1 v x) →
    (vs.flatMap V.cells).length = (xs.flatMap vcells).length
  | [], [], _, _ => rfl
  | [], _ :: _, h, _ => by simp at h
  | _ :: _, [], h, _ => by simp at h
  | v :: vs, x :: xs, h, hs => by
    have h1 := shape1_len (hs 0 v x rfl rfl)
    have h2 := flat_len vs xs (by simpa using h) fun i v x a b => hs (i + 1) v x a b
    rw [List.flatMap_cons, List.flatMap_cons, List.length_append, List.length_append, h1, h2]
theorem shape_len {v : V} {x : Value} (h : Shape v x) (hg : ∀ g, v ≠ .gone g) : v.leaves.length = (vleaves x).length := by
  by_cases hv : v.leaf = true
  · rw [leaves_leaf hv, vleaves_leaf (leaf_shape hv hg h)]; rfl
  · cases v with
    | agg cs => obtain ⟨xs, rfl, h⟩ := h; simpa [V.leaves, vleaves] using h
    | tup vs =>
      obtain ⟨xs, rfl, h1, h2⟩ := h
      exact flat_len _ _ (by simpa using h1) fun i v x a b => h2 i v x a (by simpa using b)
    | _ => exact absurd rfl hv
theorem SlotRel.leafs {s : Nat} {v : V} {x : Value} (h : SlotRel E slots objs vals H s v x) : ∀ u ∈ v.leaves, u.leaf = true := by
  intro u hu
  by_cases hg : ∃ g, v = .gone g
  · obtain ⟨g, rfl⟩ := hg; simp at hu; subst hu; rfl
  · have hl := shape_len h.1 fun g e => hg ⟨g, e⟩
    obtain ⟨i, hi, rfl⟩ := List.getElem_of_mem hu
    exact (h.2 i _ (vleaves x)[i] (List.getElem?_eq_getElem hi) (List.getElem?_eq_getElem (by omega))).leaf
theorem not_leaf_agg {v : V} (h : ¬ v.leaf = true) : (∃ cs, v = .agg cs) ∨ ∃ vs, v = .tup vs := by
  cases v with
  | agg cs => exact .inl ⟨cs, rfl⟩
  | tup vs => exact .inr ⟨vs, rfl⟩
  | _ => exact absurd rfl h
def partsOk (vs : List V) : Prop := ∀ v ∈ vs, v.leaf = true ∨ ∃ cs, v = .agg cs
theorem layTup_flat : ∀ (vs ls : List V), partsOk vs → ls.length = (vs.flatMap V.cells).length → (∀ u ∈ ls, u.leaf = true) → (layTup vs ls).flatMap V.cells = ls
  | [], ls, _, h, _ => by simp at h; subst h; rfl
  | v :: vs, ls, hp, h, hl => by
    have ih := layTup_flat vs
    have hp' : partsOk vs := fun v hv => hp v (List.mem_cons_of_mem _ hv)
    rw [List.flatMap_cons, List.length_append] at h
    rcases hp v (List.mem_cons_self ..) with hv | ⟨cs, rfl⟩
    · rw [cells_leaf hv] at h
      cases ls with
      | nil => simp at h; omega
      | cons u ls =>
        rw [layTup_leaf hv]
        simp only [List.headD_cons, List.drop_succ_cons, List.drop_zero, List.flatMap_cons]
        rw [ih ls hp' (by simp at h ⊢; omega) fun w hw => hl w (List.mem_cons_of_mem _ hw), cells_leaf (hl u (List.mem_cons_self ..))]
        rfl
    · simp only [layTup, List.flatMap_cons]
      rw [ih _ hp' (by simp only [V.cells] at h; rw [List.length_drop]; omega) fun u hu => hl u (List.mem_of_mem_drop hu)]
      simp [V.cells]
theorem layTup_len : ∀ (vs ls : List V), partsOk vs → (layTup vs ls).length = vs.length
  | [], _, _ => rfl
  | v :: vs, ls, hp => by
    have ih := fun ls => layTup_len vs ls fun v hv => hp v (List.mem_cons_of_mem _ hv)
    rcases hp v (List.mem_cons_self ..) with hv | ⟨cs, rfl⟩
    · rw [layTup_leaf hv]; simp [ih]
    · simp [layTup, ih]
theorem layTup_shape : ∀ (vs ls : List V) (xs : List Value), partsOk vs → ls.length = (vs.flatMap V.cells).length → (∀ u ∈ ls, u.leaf = true) → (∀ (i : Nat) (v : V) (x : Value), vs[i]? = some v → xs[i]? = some x → Shape1 v x) →
    ∀ (i : Nat) (v : V) (x : Value), (layTup vs ls)[i]? = some v → xs[i]? = some x → Shape1 v x
  | [], _, _, _, _, _, _ => by intro i v x h; simp [layTup] at h
  | w :: vs, ls, xs, hp, hn, hl, h => by
    intro i v x hv hx
    have ih := layTup_shape vs
    have hp' : partsOk vs := fun v hv => hp v (List.mem_cons_of_mem _ hv)
    rw [List.flatMap_cons, List.length_append] at hn
    rcases hp w (List.mem_cons_self ..) with hw | ⟨cs, rfl⟩
    · rw [cells_leaf hw] at hn
      rw [layTup_leaf hw] at hv
      cases ls with
      | nil => simp at hn; omega
      | cons u ls =>
        cases i with
        | zero =>
          simp only [List.headD_cons, List.getElem?_cons_zero, Option.some.injEq] at hv; subst hv
          exact (shape1_leaf (hl u (List.mem_cons_self ..))).2 ((shape1_leaf hw).1 (h 0 w x rfl hx))
        | succ i =>
          cases xs with
          | nil => simp at hx
          | cons y xs =>
            exact ih ls xs hp' (by simp at hn ⊢; omega) (fun w hw => hl w (List.mem_cons_of_mem _ hw)) (fun i v x a b => h (i + 1) v x a b) i v x hv hx
    · simp only [layTup] at hv
      cases i with
      | zero =>
        simp only [List.getElem?_cons_zero, Option.some.injEq] at hv; subst hv
        obtain ⟨ys, e1, e2⟩ := h 0 _ x rfl hx
        exact ⟨ys, e1, by simp only [V.cells] at hn; rw [List.length_take]; omega⟩
      | succ i =>
        cases xs with
        | nil => simp at hx
        | cons y xs =>
          exact ih (ls.drop cs.length) xs hp' (by simp only [V.cells] at hn; rw [List.length_drop]; omega) (fun u hu => hl u (List.mem_of_mem_drop hu)) (fun i v x a b => h (i + 1) v x a b) i v x hv hx
def V.formed (v : V) : Prop := match v with | .tup vs => partsOk vs | _ => True
theorem SlotRel.formed {s : Nat} {v : V} {x : Value} (h : SlotRel E slots objs vals H s v x) : v.formed := by
  cases v with
  | tup vs =>
    obtain ⟨xs, _, h1, h2⟩ := h.1
    intro v hv
    obtain ⟨i, hi, rfl⟩ := List.getElem_of_mem hv
    have := h2 i _ xs[i] (List.getElem?_eq_getElem hi) (Array.getElem?_eq_getElem (by omega))
    by_cases hl : vs[i].leaf = true
    · exact .inl hl
    · rcases not_leaf_agg hl with h | ⟨us, h⟩
      · exact .inr h
      · rw [h] at this; exact this.elim
  | _ => trivial
theorem withLeaves_leaves {v : V} {ls : List V} (hf : v.formed) (h : ls.length = v.leaves.length) (hl : ∀ u ∈ ls, u.leaf = true) : (v.withLeaves ls).leaves = ls := by
  by_cases hv : v.leaf = true
  · rw [withLeaves_leaf hv]
    rw [leaves_leaf hv] at h
    cases ls with
    | nil => simp at h
    | cons u ls =>
      have : ls = [] := by cases ls with | nil => rfl | cons => simp at h
      subst this
      exact leaves_leaf (hl u (List.mem_cons_self ..))
  · rcases not_leaf_agg hv with ⟨cs, rfl⟩ | ⟨vs, rfl⟩
    · rfl
    · exact layTup_flat _ _ hf h hl
theorem withLeaves_shape {v : V} {ls : List V} {x : Value} (hf : v.formed) (h : ls.length = v.leaves.length) (hl : ∀ u ∈ ls, u.leaf = true) (hs : Shape v x) (hg : ∀ g, v ≠ .gone g) : Shape (v.withLeaves ls) x := by
  by_cases hv : v.leaf = true
  · rw [withLeaves_leaf hv]
    rw [leaves_leaf hv] at h
    cases ls with
    | nil => simp at h
    | cons u ls => exact shape_leaf (hl u (List.mem_cons_self ..)) (leaf_shape hv hg hs)
  · rcases not_leaf_agg hv with ⟨cs, rfl⟩ | ⟨vs, rfl⟩
    · obtain ⟨xs, e1, e2⟩ := hs
      exact ⟨xs, e1, by rw [h]; exact e2⟩
    · obtain ⟨xs, e1, e2, e3⟩ := hs
      refine ⟨xs, e1, by rw [layTup_len _ _ hf]; exact e2, fun i v x a b => ?_⟩
      exact layTup_shape vs ls xs.toList hf h hl (fun i v x a b => e3 i v x a (by simpa using b)) i v x a (by simpa using b)
end
end Go.Vq
namespace Go.Vq
section
variable {n : Nat} {E E' : Env} {slots slots' : List V} {objs objs' : List (Option Obj)} {vals vals' : List Value} {H H' : Array Go.Obj}
theorem wipe1_leaf {u : V} (h : u.leaf = true) : (wipe1 u).leaf = true := by cases u <;> first | rfl | exact h
theorem wipe1_nextg (u : V) : (wipe1 u).nextg = u.nextg := by cases u <;> rfl
theorem wipe1_own (u : V) (h : u.own = false) : wipe1 u = u := by cases u <;> first | rfl | simp [V.own] at h
theorem wipe1_gone {u : V} (h : u.own = true) : (wipe1 u) = .gone u.nextg := by cases u <;> first | rfl | simp [V.own] at h
theorem wipe_leaves {v : V} (hf : v.formed) (hl : ∀ u ∈ v.leaves, u.leaf = true) : v.wipe.leaves = v.leaves.map wipe1 :=
  withLeaves_leaves hf (by simp) (by intro u hu; obtain ⟨w, hw, rfl⟩ := List.mem_map.1 hu; exact wipe1_leaf (hl w hw))
theorem refs1_wipe1 (u : V) : ∀ r ∈ (wipe1 u).refs1, r ∈ u.refs1 := by
  intro r hr
  cases u <;> first | exact hr | cases hr
theorem refs_of_leaves {v : V} {ls : List V} (h : v.leaves = ls) : v.refs = ls.flatMap V.refs1 := by rw [V.refs, h]
theorem Core.move (hC : Core n E slots objs vals H) {t : Nat} {v : V} {x : Value} (hv : slots[t]? = some v) (hx : vals[t]? = some x) :
    Core n (E.retag (mv t slots.length)) (slots.set t v.wipe ++ [v]) objs (vals ++ [x]) H := by
  have ht := lt_of_getElem? hv
  have hS := hC.slot t v x hv hx
  have hwl := wipe_leaves hS.formed hS.leafs
  have hk : HomesKept n E slots objs vals H (E.retag (mv t slots.length)) (slots.set t v.wipe ++ [v]) objs (vals ++ [x]) H := by
    intro h u hh hu hp
    cases h with
    | slot s i =>
      have hs : s < slots.length := by
        rcases Nat.lt_or_ge s slots.length with hs | hs
        · exact hs
        · have := ct_slot_big hs hu; subst this; simp [V.nextg] at hp
      have e1 : ct (slots.set t v.wipe ++ [v]) objs (.slot s i) = if s = t then v.wipe.leaves[i]? else ct slots objs (.slot s i) := by
        rw [ct_append_left _ _ _ _ _ (by simpa using hs), ct_set _ _ _ _ _ _ ht]
      have e2 : hd (E.retag (mv t slots.length)) (vals ++ [x]) H (.slot s i) = hd E vals H (.slot s i) := hd_append_left _ _ _ _ _ _ (hC.len ▸ hs)
      by_cases hst : s = t
      · subst hst
        rw [ct_getElem? hv] at hu
        refine ⟨wipe1 u, ?_, by rw [wipe1_nextg]; exact Nat.le_refl _, ?_⟩
        · rw [e1, if_pos rfl, hwl, List.getElem?_map, hu]; rfl
        · by_cases ho : u.own = true
          · right; intro g sz hg; rw [wipe1_gone ho] at hg; cases hg
          · left; rw [wipe1_own u (by simpa using ho)]; exact ⟨rfl, e2⟩
      · exact ⟨u, by rw [e1, if_neg hst]; exact hu, Nat.le_refl _, .inl ⟨rfl, e2⟩⟩
    | obj o i => exact ⟨u, hu, Nat.le_refl _, .inl ⟨rfl, rfl⟩⟩
  have c1 := Env.retag_c1 E (mv t slots.length) H
  refine ⟨by simp [hC.len], by have := hC.real; simp; omega, fun s u y hs hy => ?_, fun o cs ho => ?_, fun b hb => Env.retag_other (hC.fresh b hb), fun s u hs r hr => ?_⟩
  · rcases getElem?_append_one hs with ⟨h1, h2⟩ | ⟨h1, h2⟩
    · have h1' : s < slots.length := by simpa using h1
      rw [List.getElem?_append_left (hC.len ▸ h1')] at hy
      by_cases hst : s = t
      · subst hst
        rw [List.getElem?_set_self ht] at h2; cases h2
        rw [hx] at hy; cases hy
        refine ⟨?_, fun i w z hw hz => ?_⟩
        · by_cases hg : ∃ g, v = .gone g
          · obtain ⟨g, rfl⟩ := hg; trivial
          · exact withLeaves_shape hS.formed (by simp) (by intro u hu; obtain ⟨w, hw, rfl⟩ := List.mem_map.1 hu; exact wipe1_leaf (hS.leafs w hw)) hS.1 fun g e => hg ⟨g, e⟩
        · rw [hwl, List.getElem?_map] at hw
          obtain ⟨u, hu, rfl⟩ := Option.map_eq_some_iff.1 hw
          by_cases ho : u.own = true
          · rw [wipe1_gone ho]; trivial
          · rw [wipe1_own u (by simpa using ho)]
            exact hC.leaf hk c1 rfl hv hx hu hz (fun h => absurd h ho) (fun h => absurd h ho)
      · rw [List.getElem?_set_ne (fun e => hst e.symm)] at h2
        refine ⟨(hC.slot s u y h2 hy).1, fun i w z hw hz => hC.leaf hk c1 rfl h2 hy hw hz (fun _ b hb => ?_) (fun _ b m hb => ?_)⟩
        · exact ⟨by rw [Env.retag_home hb]; simp [mv, hst], rfl⟩
        · exact ⟨by rw [Env.retag_tail hb]; simp [mv, hst], rfl⟩
    · rw [List.length_set] at h1
      subst h1 h2
      rw [hC.len, List.getElem?_append_right (Nat.le_refl _)] at hy
      simp at hy; subst hy
      refine ⟨hS.1, fun i w z hw hz => hC.leaf hk c1 rfl hv hx hw hz (fun _ b hb => ?_) (fun _ b m hb => ?_)⟩
      · exact ⟨by rw [Env.retag_home hb]; simp [mv], rfl⟩
      · exact ⟨by rw [Env.retag_tail hb]; simp [mv], rfl⟩
  · refine hC.objKept c1 rfl ho (fun h => ⟨Env.retag_obj h, rfl⟩) (fun _ _ _ _ b hb => ⟨by rw [Env.retag_home hb]; rfl, rfl⟩) (fun _ _ _ _ b m hb => ⟨by rw [Env.retag_tail hb]; rfl, rfl⟩)
  · rcases getElem?_append_one hs with ⟨h1, h2⟩ | ⟨h1, h2⟩
    · by_cases hst : s = t
      · subst hst
        rw [List.getElem?_set_self ht] at h2; cases h2
        rw [refs_of_leaves hwl, List.mem_flatMap] at hr
        obtain ⟨w, hw, hr⟩ := hr
        obtain ⟨u, hu, rfl⟩ := List.mem_map.1 hw
        have := hC.refs s v hv r (List.mem_flatMap.2 ⟨u, hu, refs1_wipe1 u r hr⟩)
        exact ⟨this.1, hk.bound this⟩
      · rw [List.getElem?_set_ne (fun e => hst e.symm)] at h2
        have := hC.refs s u h2 r hr
        exact ⟨this.1, hk.bound this⟩
    · subst h2
      have := hC.refs t u hv r hr
      exact ⟨this.1, hk.bound this⟩
theorem regen1_leaf {o v w : V} (h : regen1 o v = some w) (hl : v.leaf = true) : w.leaf = true := by
  cases v <;> simp only [regen1] at h <;> first
    | (cases h; rfl)
    | (split at h <;> first | (cases h; first | rfl | exact hl) | cases h)
theorem regens_some : ∀ (olds news ls : List V), regens olds news = some ls → ls.length = news.length ∧
    (∀ i v, news[i]? = some v → ∃ w, ls[i]? = some w ∧ regen1 (olds.getD i (.gone 0)) v = some w) ∧ ∀ i u, olds[i]? = some u → news.length ≤ i → u.nextg = 0
  | olds, [], ls, h => by
    simp only [regens] at h
    split at h
    · rename_i hall
      cases h
      refine ⟨rfl, fun i v h => by simp at h, fun i u hu _ => ?_⟩
      have := List.all_eq_true.1 hall u (List.mem_of_getElem? hu)
      simpa using this
    · cases h
  | [], m :: ns, ls, h => by
    simp only [regens, Option.bind_eq_bind, Option.pure_def] at h
    obtain ⟨w, hw, h⟩ := Option.bind_eq_some_iff.1 h
    obtain ⟨ws, hws, h⟩ := Option.bind_eq_some_iff.1 h
    cases h
    obtain ⟨i1, i2, i3⟩ := regens_some [] ns ws hws
    refine ⟨by simp [i1], fun i v hv => ?_, fun i u hu _ => by simp at hu⟩
    cases i with
    | zero => simp at hv; subst hv; exact ⟨w, rfl, hw⟩
    | succ i => obtain ⟨z, z1, z2⟩ := i2 i v (by simpa using hv); exact ⟨z, by simpa using z1, by simpa using z2⟩
  | o :: os, m :: ns, ls, h => by
    simp only [regens, Option.bind_eq_bind, Option.pure_def] at h
    obtain ⟨w, hw, h⟩ := Option.bind_eq_some_iff.1 h
    obtain ⟨ws, hws, h⟩ := Option.bind_eq_some_iff.1 h
    cases h
    obtain ⟨i1, i2, i3⟩ := regens_some os ns ws hws
    refine ⟨by simp [i1], fun i v hv => ?_, fun i u hu hle => ?_⟩
    · cases i with
      | zero => simp at hv; subst hv; exact ⟨w, rfl, by simpa using hw⟩
      | succ i => obtain ⟨z, z1, z2⟩ := i2 i v (by simpa using hv); exact ⟨z, by simpa using z1, by simpa using z2⟩
    · cases i with
      | zero => simp at hle
      | succ i => exact i3 i u (by simpa using hu) (by simpa using hle)
theorem regen1_next {o v w : V} (h : regen1 o v = some w) (hp : 0 < o.nextg) : o.nextg ≤ w.nextg ∧ ∀ g sz, w.gen? = some (g, sz) → o.nextg ≤ g := by
  cases v <;> simp only [regen1] at h <;> first
    | (cases h; refine ⟨by simp [V.nextg], fun g sz hg => ?_⟩; simp only [V.gen?, Option.some.injEq, Prod.mk.injEq, reduceCtorEq] at hg <;> omega)
    | (rw [if_neg (by omega)] at h; first
        | cases h; done
        | (cases h; refine ⟨by simp [V.nextg], fun g sz hg => ?_⟩; simp only [V.gen?, Option.some.injEq, Prod.mk.injEq] at hg; omega))
theorem regen1_refs {o v w : V} (h : regen1 o v = some w) : w.refs1 = v.refs1 := by
  cases v <;> simp only [regen1] at h <;> first
    | (cases h; rfl)
    | (split at h <;> first | (cases h; rfl) | cases h)
theorem regen1_rel {h : Home} {o v w : V} {x : Value} (hr : regen1 o v = some w) (hv : RelV E slots objs vals H h v x) : RelV E slots objs vals H h w x := by
  cases v with
  | xsl g sz es => simp only [regen1] at hr; cases hr; exact hv
  | fsl g sz es => simp only [regen1] at hr; cases hr; exact hv
  | isl g sz es =>
    simp only [regen1] at hr; cases hr
    simp only [RelV] at hv ⊢
    cases hv with
    | isl _ _ _ a cap xs hc ha hsp hz hx h => exact .isl _ _ _ a cap xs hc ha hsp hz hx h
  | gone g => simp only [regen1] at hr; cases hr; trivial
  | nilS sz =>
    simp only [regen1] at hr
    split at hr
    · cases hr; exact hv
    · cases hr
      simp only [RelV] at hv
      cases hv
      exact ⟨none, 0, rfl, Nat.le_refl _, fun _ => rfl, fun _ h => by simp at h, fun h => absurd rfl h, fun e h => by simp at h, fun i e j v h => by simp at h⟩
  | _ =>
    simp only [regen1] at hr
    split at hr
    · cases hr; exact hv
    · cases hr
theorem Core.put {v : V} {x : Value} (hC : Core n E (slots ++ [v]) objs (vals ++ [x]) H) (hn : n ≤ slots.length) {d : Nat} (hd' : d < n) {ls : List V}
    (hr : regens (slots.getD d (.gone 0)).leaves v.leaves = some ls) :
    Core n (E.retag (mv slots.length d)) (slots.set d (v.withLeaves ls)) objs (vals.set d x) H := by
  have hl : slots.length = vals.length := by have := hC.len; simpa using this
  have hd : d < slots.length := by omega
  obtain ⟨old, hold⟩ := exists_getElem? hd
  rw [getD_of_getElem? hold] at hr
  obtain ⟨r1, r2, r3⟩ := regens_some _ _ _ hr
  have hvN : (slots ++ [v])[slots.length]? = some v := by simp
  have hxN : (vals ++ [x])[slots.length]? = some x := by rw [hl]; simp
  have hS := hC.slot _ v x hvN hxN
  have hlf : ∀ w ∈ ls, w.leaf = true := by
    intro w hw
    obtain ⟨i, hi, rfl⟩ := List.getElem_of_mem hw
    obtain ⟨u, hu⟩ := exists_getElem? (l := v.leaves) (i := i) (by omega)
    obtain ⟨z, z1, z2⟩ := r2 i u hu
    rw [List.getElem?_eq_getElem hi] at z1; cases z1
    exact regen1_leaf z2 (hS.leafs u (List.mem_of_getElem? hu))
  have hwl : (v.withLeaves ls).leaves = ls := withLeaves_leaves hS.formed r1 hlf
  have hk : HomesKept n E (slots ++ [v]) objs (vals ++ [x]) H (E.retag (mv slots.length d)) (slots.set d (v.withLeaves ls)) objs (vals.set d x) H := by
    intro h u hh hu hp
    cases h with
    | slot s i =>
      have hs : s < slots.length := by have := hh s i rfl; omega
      rw [ct_append_left _ _ _ _ _ hs] at hu
      have e1 := ct_set slots objs d (v.withLeaves ls) s i hd
      by_cases hsd : s = d
      · subst hsd
        rw [ct_getElem? hold] at hu
        rw [if_pos rfl, hwl] at e1
        rcases Nat.lt_or_ge i ls.length with hi | hi
        · obtain ⟨w', hw'⟩ := exists_getElem? (l := v.leaves) (i := i) (by omega)
          obtain ⟨w, w1, w2⟩ := r2 i w' hw'
          rw [getD_of_getElem? hu] at w2
          have := regen1_next w2 hp
          exact ⟨w, by rw [e1, w1], this.1, .inr this.2⟩
        · have := r3 i u hu (by omega); omega
      · rw [if_neg hsd] at e1
        refine ⟨u, by rw [e1]; exact hu, Nat.le_refl _, .inl ⟨rfl, ?_⟩⟩
        rw [hd_append_left _ _ _ _ _ _ (hl ▸ hs), hd_set _ _ _ _ _ _ _ (hl ▸ hd), if_neg hsd]
        rfl
    | obj o i => exact ⟨u, hu, Nat.le_refl _, .inl ⟨rfl, rfl⟩⟩
  have c1 := Env.retag_c1 E (mv slots.length d) H
  have hvr : ∀ r ∈ (v.withLeaves ls).refs, r ∈ v.refs := by
    intro r hr'
    rw [refs_of_leaves hwl, List.mem_flatMap] at hr'
    obtain ⟨w, hw, hr'⟩ := hr'
    obtain ⟨i, hi, rfl⟩ := List.getElem_of_mem hw
    obtain ⟨u, hu⟩ := exists_getElem? (l := v.leaves) (i := i) (by omega)
    obtain ⟨z, z1, z2⟩ := r2 i u hu
    rw [List.getElem?_eq_getElem hi] at z1; cases z1
    rw [regen1_refs z2] at hr'
    exact mem_refs hu hr'
  refine ⟨by simp [hl], by simpa using hn, fun s u y hs hy => ?_, fun o cs ho => ?_, fun b hb => Env.retag_other (hC.fresh b hb), fun s u hs r hr' => ?_⟩
  · by_cases hsd : s = d
    · subst hsd
      rw [List.getElem?_set_self hd] at hs; cases hs
      rw [List.getElem?_set_self (hl ▸ hd)] at hy; cases hy
      refine ⟨?_, fun i w z hw hz => ?_⟩
      · by_cases hg : ∃ g, v = .gone g
        · obtain ⟨g, rfl⟩ := hg
          obtain ⟨w, w1, w2⟩ := r2 0 (.gone g) rfl
          simp only [regen1] at w2
          cases ls with
          | nil => simp at w1
          | cons l ls => simp at w1; subst w1; cases w2; trivial
        · exact withLeaves_shape hS.formed r1 hlf hS.1 fun g e => hg ⟨g, e⟩
      · rw [hwl] at hw
        obtain ⟨u, hu⟩ := exists_getElem? (l := v.leaves) (i := i) (by have := lt_of_getElem? hw; omega)
        obtain ⟨w', w1, w2⟩ := r2 i u hu
        rw [hw] at w1; cases w1
        refine regen1_rel w2 (hC.leaf hk c1 rfl hvN hxN hu hz (fun _ b hb => ?_) (fun _ b m hb => ?_))
        · exact ⟨by rw [Env.retag_home hb]; simp [mv], rfl⟩
        · exact ⟨by rw [Env.retag_tail hb]; simp [mv], rfl⟩
    · rw [List.getElem?_set_ne (fun e => hsd e.symm)] at hs hy
      have hs1 := lt_of_getElem? hs
      have hs' : (slots ++ [v])[s]? = some u := by rw [List.getElem?_append_left hs1]; exact hs
      have hy' : (vals ++ [x])[s]? = some y := by rw [List.getElem?_append_left (hl ▸ hs1)]; exact hy
      refine ⟨(hC.slot s u y hs' hy').1, fun i w z hw hz => hC.leaf hk c1 rfl hs' hy' hw hz (fun _ b hb => ?_) (fun _ b m hb => ?_)⟩
      · exact ⟨by rw [Env.retag_home hb]; simp only [mv]; rw [if_neg (by omega)], rfl⟩
      · exact ⟨by rw [Env.retag_tail hb]; simp only [mv]; rw [if_neg (by omega)], rfl⟩
  · refine hC.objKept c1 rfl ho (fun h => ⟨Env.retag_obj h, rfl⟩) (fun _ _ _ _ b hb => ⟨by rw [Env.retag_home hb]; rfl, rfl⟩) (fun _ _ _ _ b m hb => ⟨by rw [Env.retag_tail hb]; rfl, rfl⟩)
  · by_cases hsd : s = d
    · subst hsd
      rw [List.getElem?_set_self hd] at hs; cases hs
      have := hC.refs _ v hvN r (hvr r hr')
      exact ⟨this.1, hk.bound this⟩
    · rw [List.getElem?_set_ne (fun e => hsd e.symm)] at hs
      have hs' : (slots ++ [v])[s]? = some u := by rw [List.getElem?_append_left (lt_of_getElem? hs)]; exact hs
      have := hC.refs s u hs' r hr'
      exact ⟨this.1, hk.bound this⟩
def setSlots (slots : List V) : Home → V → List V
  | .slot s off, u => slots.set s ((slots.getD s (.gone 0)).withLeaves ((slots.getD s (.gone 0)).leaves.set off u))
  | .obj .., _ => slots
def setObjs' (objs : List (Option Obj)) : Home → V → List (Option Obj)
  | .slot .., _ => objs
  | .obj o off, u => match objs.getD o none with
    | some (.cells cs) => objs.set o (some (.cells (cs.set off u)))
    | _ => objs
theorem alive_set {objs : List (Option Obj)} {o i : Nat} {ob : Obj} (h : alive objs o) : alive (objs.set i (some ob)) o := by
  obtain ⟨x, hx⟩ := h
  by_cases hi : i = o
  · subst hi; exact ⟨ob, by rw [List.getElem?_set_self (lt_of_getElem? hx)]⟩
  · exact ⟨x, by rw [List.getElem?_set_ne hi]; exact hx⟩
theorem alive_setObjs' {objs : List (Option Obj)} {o : Nat} {hh : Home} {u : V} (h : alive objs o) : alive (setObjs' objs hh u) o := by
  unfold setObjs'
  split
  · exact h
  · split
    · exact alive_set h
    · exact h
theorem mem_set_refs {ls : List V} {off : Nat} {u' : V} (hu : u'.refs1 = []) {r : Home × Nat} (h : r ∈ (ls.set off u').flatMap V.refs1) : r ∈ ls.flatMap V.refs1 := by
  obtain ⟨w, hw, hr⟩ := List.mem_flatMap.1 h
  rcases List.mem_or_eq_of_mem_set hw with h1 | h1
  · exact List.mem_flatMap.2 ⟨w, h1, hr⟩
  · subst h1; rw [hu] at hr; cases hr
theorem Core.turn (hC : Core n E slots objs vals H) {h : Home} {u u' : V} (hu : ct slots objs h = some u) (hg : ∀ g, u ≠ .gone g)
    (hin : u'.leaf = true ∧ u'.refs1 = [] ∧ (∀ o off, h = .obj o off → u'.inObj = true))
    (hng : (∀ t i, h = .slot t i → t < n) → u.nextg ≤ u'.nextg ∧ (u'.gen? = u.gen? ∨ ∀ g sz, u'.gen? = some (g, sz) → u.nextg ≤ g))
    (ca : E'.addr = E.addr) (c1 : ∀ b i, E.imm b i → E'.imm b i) (c2 : ∀ h' w, h' ≠ h → ct slots objs h' = some w → w.own = true → ∀ b, E.tag b = .home h' → E'.tag b = .home h') (c2' : ∀ h' w, h' ≠ h → ct slots objs h' = some w → w.own = true → ∀ b m, E.tag b = .tail h' m → E'.tag b = .tail h' m)
    (c0 : ∀ b o, E.tag b = .obj o → E'.tag b = .obj o) (cf : ∀ b, E.tag b = .other → E'.tag b = .other)
    (hrel : ∀ y, hd E vals H h = some y → RelV E slots objs vals H h u y → RelV E' (setSlots slots h u') (setObjs' objs h u') vals H h u' y) :
    Core n E' (setSlots slots h u') (setObjs' objs h u') vals H := by
  have c1' : ∀ b i, E.imm b i → E'.imm b i ∧ cellAt H b i = cellAt H b i := fun b i h => ⟨c1 b i h, rfl⟩
  have hdE : ∀ h', hd E' vals H h' = hd E vals H h' := by intro h'; cases h' <;> simp [hd, ca]
  cases h with
  | slot s off =>
    have hs : s < slots.length := by
      rcases Nat.lt_or_ge s slots.length with hs | hs
      · exact hs
      · exact absurd (ct_slot_big hs hu) (hg 0)
    obtain ⟨v, hv⟩ := exists_getElem? hs
    obtain ⟨x, hx⟩ := exists_getElem? (l := vals) (i := s) (hC.len ▸ hs)
    have hS := hC.slot s v x hv hx
    have e0 : slots.getD s (.gone 0) = v := getD_of_getElem? hv
    simp only [setSlots, setObjs', e0] at hrel ⊢
    rw [ct_getElem? hv] at hu
    have hoff := lt_of_getElem? hu
    have hlf : ∀ w ∈ v.leaves.set off u', w.leaf = true := by
      intro w hw
      rcases List.mem_or_eq_of_mem_set hw with h1 | h1
      · exact hS.leafs w h1
      · subst h1; exact hin.1
    have hvg : ∀ g, v ≠ .gone g := by
      rintro g rfl
      simp at hoff; subst hoff; simp at hu; exact hg g hu.symm
    have hwl : (v.withLeaves (v.leaves.set off u')).leaves = v.leaves.set off u' := withLeaves_leaves hS.formed (by simp) hlf
    have hk : HomesKept n E slots objs vals H E' (slots.set s (v.withLeaves (v.leaves.set off u'))) objs vals H := by
      intro h w hh hw hp
      cases h with
      | slot s' i =>
        have e1 := ct_set slots objs s (v.withLeaves (v.leaves.set off u')) s' i hs
        by_cases hss : s' = s
        · subst hss
          rw [if_pos rfl, hwl] at e1
          rw [ct_getElem? hv] at hw
          by_cases hi : i = off
          · subst hi
            rw [hu] at hw; cases hw
            have := hng (fun t j e => by cases e; exact hh _ _ rfl)
            refine ⟨u', by rw [e1, List.getElem?_set_self hoff], this.1, ?_⟩
            rcases this.2 with h2 | h2
            · exact .inl ⟨h2, hdE _⟩
            · exact .inr h2
          · exact ⟨w, by rw [e1, List.getElem?_set_ne (fun e => hi e.symm)]; exact hw, Nat.le_refl _, .inl ⟨rfl, hdE _⟩⟩
        · rw [if_neg hss] at e1
          exact ⟨w, by rw [e1]; exact hw, Nat.le_refl _, .inl ⟨rfl, hdE _⟩⟩
      | obj o i => exact ⟨w, hw, Nat.le_refl _, .inl ⟨rfl, hdE _⟩⟩
    refine ⟨by simp [hC.len], by simpa using hC.real, fun s' w y hs' hy => ?_, fun o cs ho => ?_, fun b hb => cf b (hC.fresh b hb), fun s' w hs' r hr => ?_⟩
    · by_cases hss : s' = s
      · subst hss
        rw [List.getElem?_set_self hs] at hs'; cases hs'
        rw [hx] at hy; cases hy
        refine ⟨withLeaves_shape hS.formed (by simp) hlf hS.1 hvg, fun i w z hw hz => ?_⟩
        rw [hwl] at hw
        by_cases hi : i = off
        · subst hi
          rw [List.getElem?_set_self hoff] at hw; cases hw
          exact hrel z (by simp only [hd, hx, Option.bind_some]; exact hz) (hS.2 _ u z hu hz)
        · rw [List.getElem?_set_ne (fun e => hi e.symm)] at hw
          exact hC.leaf hk c1' ca hv hx hw hz (fun ho b hb => ⟨c2 (.slot s' i) w (by simp [hi]) (by rw [ct_getElem? hv]; exact hw) ho b hb, rfl⟩) (fun ho b m hb => ⟨c2' (.slot s' i) w (by simp [hi]) (by rw [ct_getElem? hv]; exact hw) ho b m hb, rfl⟩)
      · rw [List.getElem?_set_ne (fun e => hss e.symm)] at hs'
        exact ⟨(hC.slot s' w y hs' hy).1, fun i w' z hw hz => hC.leaf hk c1' ca hs' hy hw hz (fun ho b hb => ⟨c2 (.slot s' i) w' (by simp [hss]) (by rw [ct_getElem? hs']; exact hw) ho b hb, rfl⟩) (fun ho b m hb => ⟨c2' (.slot s' i) w' (by simp [hss]) (by rw [ct_getElem? hs']; exact hw) ho b m hb, rfl⟩)⟩
    · exact hC.objKept c1' ca ho (fun h => ⟨c0 _ _ h, rfl⟩) (fun i u hi ho' b hb => ⟨c2 (.obj o i) u (by simp) (by simp only [ct, ho]; exact hi) ho' b hb, rfl⟩) (fun i u hi ho' b m hb => ⟨c2' (.obj o i) u (by simp) (by simp only [ct, ho]; exact hi) ho' b m hb, rfl⟩)
    · by_cases hss : s' = s
      · subst hss
        rw [List.getElem?_set_self hs] at hs'; cases hs'
        rw [refs_of_leaves hwl] at hr
        have := hC.refs _ v hv r (mem_set_refs hin.2.1 hr)
        exact ⟨this.1, hk.bound this⟩
      · rw [List.getElem?_set_ne (fun e => hss e.symm)] at hs'
        have := hC.refs s' w hs' r hr
        exact ⟨this.1, hk.bound this⟩
  | obj o off =>
    simp only [ct] at hu
    split at hu
    · rename_i cs ho
      have e0 : objs.getD o none = some (.cells cs) := getD_of_getElem? ho
      have hol := lt_of_getElem? ho
      simp only [setSlots, setObjs', e0] at hrel ⊢
      have hoff := lt_of_getElem? hu
      obtain ⟨arr, T, f, h1, h2, h3, h4, h5, h6⟩ := hC.obj o cs ho
      have hk : HomesKept n E slots objs vals H E' slots (objs.set o (some (.cells (cs.set off u')))) vals H := by
        intro h w hh hw hp
        cases h with
        | slot s' i => exact ⟨w, hw, Nat.le_refl _, .inl ⟨rfl, hdE _⟩⟩
        | obj o' i =>
          by_cases hoo : o' = o
          · subst hoo
            simp only [ct, ho] at hw
            simp only [ct, List.getElem?_set_self hol]
            by_cases hi : i = off
            · subst hi
              rw [hu] at hw; cases hw
              have := hng (fun t j e => by cases e)
              refine ⟨u', by rw [List.getElem?_set_self hoff], this.1, ?_⟩
              rcases this.2 with h2 | h2
              · exact .inl ⟨h2, hdE _⟩
              · exact .inr h2
            · exact ⟨w, by rw [List.getElem?_set_ne (fun e => hi e.symm)]; exact hw, Nat.le_refl _, .inl ⟨rfl, hdE _⟩⟩
          · simp only [ct] at hw
            refine ⟨w, ?_, Nat.le_refl _, .inl ⟨rfl, hdE _⟩⟩
            simp only [ct, List.getElem?_set_ne (fun e => hoo e.symm)]
            exact hw
      refine ⟨hC.len, hC.real, fun s' w y hs' hy => ?_, fun o' cs' ho' => ?_, fun b hb => cf b (hC.fresh b hb), fun s' w hs' r hr => ?_⟩
      · exact ⟨(hC.slot s' w y hs' hy).1, fun i w' z hw hz => hC.leaf hk c1' ca hs' hy hw hz (fun ho b hb => ⟨c2 (.slot s' i) w' (by simp) (by rw [ct_getElem? hs']; exact hw) ho b hb, rfl⟩) (fun ho b m hb => ⟨c2' (.slot s' i) w' (by simp) (by rw [ct_getElem? hs']; exact hw) ho b m hb, rfl⟩)⟩
      · by_cases hoo : o' = o
        · subst hoo
          rw [List.getElem?_set_self hol] at ho'; cases ho'
          refine ⟨arr, T, f, by rw [ca]; exact h1, by rw [ca]; exact c0 _ _ h2, by simpa using h3, h4, fun i w z hw hz => ?_, fun w hw => ?_⟩
          · by_cases hi : i = off
            · subst hi
              rw [List.getElem?_set_self hoff] at hw; cases hw
              exact hrel z (by simp only [hd, cellAt, h1]; exact hz) (h5 _ u z hu hz)
            · rw [List.getElem?_set_ne (fun e => hi e.symm)] at hw
              refine (h5 i w z hw hz).move c1' (fun ho' b hb => ⟨c2 (.obj o' i) w (by simp [hi]) (by simp only [ct, ho]; exact hw) ho' b hb, rfl⟩) (fun ho' b m hb => ⟨c2' (.obj o' i) w (by simp [hi]) (by simp only [ct, ho]; exact hw) ho' b m hb, rfl⟩) (fun _ _ h => ⟨by rw [ca], alive_set h⟩) (fun _ _ _ _ h => ⟨by rw [ca], alive_set h⟩) fun r hr => ?_
              rw [V.inObj_refs1 (h6 w (List.mem_of_getElem? hw))] at hr; cases hr
          · rcases List.mem_or_eq_of_mem_set hw with h1 | h1
            · exact h6 w h1
            · subst h1; exact hin.2.2 _ _ rfl
        · rw [List.getElem?_set_ne (fun e => hoo e.symm)] at ho'
          exact hC.objKept c1' ca ho' (fun h => ⟨c0 _ _ h, rfl⟩) (fun i u hi ho2 b hb => ⟨c2 (.obj o' i) u (by simp [hoo]) (by simp only [ct, ho']; exact hi) ho2 b hb, rfl⟩) (fun i u hi ho2 b m hb => ⟨c2' (.obj o' i) u (by simp [hoo]) (by simp only [ct, ho']; exact hi) ho2 b m hb, rfl⟩)
      · have := hC.refs s' w hs' r hr
        exact ⟨this.1, hk.bound this⟩
    · cases hu
theorem Core.at_ (hC : Core n E slots objs vals H) {h : Home} {u : V} (hu : ct slots objs h = some u) (hg : ∀ g, u ≠ .gone g) :
    ∃ y, hd E vals H h = some y ∧ RelV E slots objs vals H h u y := by
  cases h with
  | slot s off =>
    have hs : s < slots.length := by
      rcases Nat.lt_or_ge s slots.length with hs | hs
      · exact hs
      · exact absurd (ct_slot_big hs hu) (hg 0)
    obtain ⟨v, hv⟩ := exists_getElem? hs
    obtain ⟨x, hx⟩ := exists_getElem? (l := vals) (i := s) (hC.len ▸ hs)
    have hS := hC.slot s v x hv hx
    rw [ct_getElem? hv] at hu
    have hoff := lt_of_getElem? hu
    have hvg : ∀ g, v ≠ .gone g := by
      rintro g rfl
      simp at hoff; subst hoff; simp at hu; exact hg g hu.symm
    obtain ⟨y, hy⟩ := exists_getElem? (l := vleaves x) (i := off) (by rw [← shape_len hS.1 hvg]; exact hoff)
    exact ⟨y, by simp only [hd, hx, Option.bind_some]; exact hy, hS.2 _ u y hu hy⟩
  | obj o off =>
    simp only [ct] at hu
    split at hu
    · rename_i cs ho
      obtain ⟨arr, T, f, h1, h2, h3, h4, h5, h6⟩ := hC.obj o cs ho
      have hoff := lt_of_getElem? hu
      have hoff' : off < arr.size := by omega
      exact ⟨arr[off], by simp [hd, cellAt, h1, hoff'], h5 _ u _ hu (by simp [hoff'])⟩
    · cases hu
theorem Elems.nil (imm : Nat → Nat → Prop) (H : Array Go.Obj) (a : Option Addr) (sz : Nat) : Elems imm H a sz [] := ⟨fun e h => by simp at h, fun i e j v h => by simp at h⟩
theorem Elems.sub {imm : Nat → Nat → Prop} {ad : Addr} {sz off len : Nat} {es : List V} (h : Elems imm H (some ad) sz es) :
    Elems imm H (some ⟨ad.block, ad.off + off * sz, none⟩) sz ((es.drop off).take len) := by
  refine ⟨fun e he => h.1 e (List.mem_of_mem_drop (List.mem_of_mem_take he)), fun i e j v hi hj => ?_⟩
  rw [List.getElem?_take] at hi
  split at hi
  · rw [List.getElem?_drop] at hi
    obtain ⟨ad', x, e1, e2, e3⟩ := h.2 _ e j v hi hj
    cases e1
    refine ⟨_, x, rfl, ?_, e3⟩
    rw [← e2]; congr 1
    simp only [Nat.add_mul]; omega
  · cases hi
theorem isl_of {imm : Nat → Nat → Prop} {a : Option Addr} {sz g cap : Nat} {es : List V} (h : Elems imm H a sz es) (hc : es.length ≤ cap) (ha : a = none → cap = 0) (hsp : ∀ ad, a = some ad → cap ≠ 0 → ad.spot = none)
    (hi : ∀ (ad : Addr) (k : Nat), a = some ad → k < es.length * sz → imm ad.block (ad.off + k)) : RelI imm H (.isl g sz es) (.slice a es.length cap) := by
  cases a with
  | none =>
    have : es = [] := by have := ha rfl; cases es with | nil => rfl | cons => simp at hc; omega
    subst this
    exact .isl g sz [] none cap (fun _ _ => default) hc ha hsp h.1 (fun _ _ _ _ _ h => by cases h) (fun _ _ _ _ h => by simp at h)
  | some ad =>
    refine .isl g sz es (some ad) cap (fun i j => (cellAt H ad.block (ad.off + (i * sz + j))).getD default) hc ha hsp h.1 ?_ ?_
    · intro ad' i e j v e0 h1 h2
      cases e0
      obtain ⟨ad', x, e1, e2, e3⟩ := h.2 i e j v h1 h2
      cases e1
      refine ⟨hi ad _ rfl ?_, by rw [e2]; rfl⟩
      have := lt_of_getElem? h1
      have hj := lt_of_getElem? h2
      rw [(h.1 e (List.mem_of_getElem? h1)).1] at hj
      calc i * sz + j < i * sz + sz := by omega
        _ = (i + 1) * sz := by rw [Nat.add_mul, Nat.one_mul]
        _ ≤ es.length * sz := Nat.mul_le_mul_right _ this
    · intro i e j v h1 h2
      obtain ⟨ad', x, e1, e2, e3⟩ := h.2 i e j v h1 h2
      cases e1
      rw [e2]; exact e3
theorem isl_elems {imm : Nat → Nat → Prop} {g sz : Nat} {es : List V} {x : Value} (h : RelI imm H (.isl g sz es) x) : ∃ a cap, x = .slice a es.length cap ∧ es.length ≤ cap ∧ (a = none → cap = 0) ∧ (∀ ad, a = some ad → cap ≠ 0 → ad.spot = none) ∧
    Elems imm H a sz es ∧ ∀ (ad : Addr) (i : Nat) (e : V) (j : Nat), a = some ad → es[i]? = some e → j < e.cells.length → imm ad.block (ad.off + (i * sz + j)) := by
  cases h with
  | isl _ _ _ a cap xs hc ha hsp hz hx h =>
    refine ⟨a, cap, rfl, hc, ha, hsp, ⟨hz, fun i e j v h1 h2 => ?_⟩, fun ad i e j e0 h1 h2 => ?_⟩
    · cases a with
      | none => have := ha rfl; have := lt_of_getElem? h1; omega
      | some ad => exact ⟨ad, xs i j, rfl, (hx ad i e j v rfl h1 h2).2, h i e j v h1 h2⟩
    · obtain ⟨v, hv⟩ := exists_getElem? h2
      exact (hx ad i e j v e0 h1 hv).1
end
end Go.Vq
namespace Go.Vq
section
variable {σ σ' : St}
theorem Prog.run_ite (c : Prop) [Decidable c] (p q : Prog) : (if c then p else q).run σ = if c then p.run σ else q.run σ := by split <;> rfl
theorem gHome_run {h : Home} {k : V → Prog} (hr : (gHome h k).run σ = some σ') : ∃ v, ct σ.slots σ.objs h = some v ∧ (k v).run σ = some σ' := by
  cases h with
  | slot s off =>
    simp only [gHome, Prog.run, St.slot] at hr
    split at hr
    · rename_i x hx; exact ⟨x, hx, hr⟩
    · cases hr
  | obj o off =>
    simp only [gHome, Prog.run, St.obj] at hr
    split at hr
    · rename_i cs ho
      split at hr
      · rename_i x hx
        refine ⟨x, ?_, hr⟩
        have : σ.objs[o]? = some (some (.cells cs)) := by
          simp only [List.getD] at ho
          cases h : σ.objs[o]? with
          | none => simp [h] at ho
          | some y => simp [h] at ho; rw [ho]
        simp only [ct, this]; exact hx
      · cases hr
    · cases hr
theorem sHome_run {h : Home} {x : V} {k : Prog} (hr : (sHome h x k).run σ = some σ') :
    (∃ u, ct σ.slots σ.objs h = some u) ∧ k.run ⟨setSlots σ.slots h x, setObjs' σ.objs h x⟩ = some σ' := by
  cases h with
  | slot s off =>
    simp only [sHome, Prog.run] at hr
    rw [Prog.run_ite] at hr
    split at hr
    · rename_i hlt
      exact ⟨⟨_, List.getElem?_eq_getElem hlt⟩, hr⟩
    · cases hr
  | obj o off =>
    simp only [sHome, Prog.run, St.obj] at hr
    split at hr
    · rename_i cs ho
      rw [Prog.run_ite] at hr
      split at hr
      · rename_i hlt
        have h1 : σ.objs[o]? = some (some (.cells cs)) := by
          simp only [List.getD] at ho
          cases h : σ.objs[o]? with
          | none => simp [h] at ho
          | some y => simp [h] at ho; rw [ho]
        refine ⟨⟨cs[off], by simp only [ct, h1]; exact List.getElem?_eq_getElem hlt⟩, ?_⟩
        simp only [setSlots, setObjs', ho]
        simp only [Prog.run] at hr
        rw [if_pos (lt_of_getElem? h1)] at hr
        exact hr
      · cases hr
    · cases hr
theorem gElems_run {h : Home} {g sz : Nat} {k : Bool → List V → Prog} (h0 : (gElems h g sz k).run σ = some σ') :
    ∃ u own es, ct σ.slots σ.objs h = some u ∧ ((u = .xsl g sz es ∧ own = true) ∨ ((u = .isl g sz es ∨ u = .fsl g sz es) ∧ own = false)) ∧ (k own es).run σ = some σ' := by
  obtain ⟨v, hv, hr⟩ := gHome_run h0
  split at hr
  · rw [Prog.run_ite] at hr
    split at hr
    · rename_i hgs; obtain ⟨rfl, rfl⟩ := hgs; exact ⟨_, true, _, hv, .inl ⟨rfl, rfl⟩, hr⟩
    · cases hr
  · rw [Prog.run_ite] at hr
    split at hr
    · rename_i hgs; obtain ⟨rfl, rfl⟩ := hgs; exact ⟨_, false, _, hv, .inr ⟨.inl rfl, rfl⟩, hr⟩
    · cases hr
  · rw [Prog.run_ite] at hr
    split at hr
    · rename_i hgs; obtain ⟨rfl, rfl⟩ := hgs; exact ⟨_, false, _, hv, .inr ⟨.inr rfl, rfl⟩, hr⟩
    · cases hr
  · cases hr
theorem put_run {d : Nat} {v : V} {k : Prog} (hr : (put d v k).run σ = some σ') :
    ∃ ls, regens (σ.slots.getD d (.gone 0)).leaves v.leaves = some ls ∧ k.run (σ.setS d (v.withLeaves ls)) = some σ' := by
  simp only [put, Prog.run, St.slot] at hr
  split at hr
  · rename_i ls h; exact ⟨ls, h, hr⟩
  · cases hr
end
structure Grow (base : Nat) (E : Env) (H : Array Go.Obj) (E' : Env) (H' : Array Go.Obj) : Prop where
  size : H.size ≤ H'.size
  imm : ∀ b i, E.imm b i → E'.imm b i ∧ cellAt H' b i = cellAt H b i
  other : ∀ b, b < H.size → E.tag b = .other → E'.tag b = .other ∧ H'[b]? = H[b]?
  immT : ∀ b, E.tag b = .imm → E'.tag b = .imm ∧ H'[b]? = H[b]?
  lentT : ∀ b m, E.tag b = .lent m → E'.tag b = .lent m ∧ H'[b]? = H[b]?
  addr : ∀ o, o < base → E'.addr o = E.addr o
theorem Grow.refl (base : Nat) (E : Env) (H : Array Go.Obj) : Grow base E H E H := ⟨Nat.le_refl _, fun _ _ h => ⟨h, rfl⟩, fun _ _ h => ⟨h, rfl⟩, fun _ h => ⟨h, rfl⟩, fun _ _ h => ⟨h, rfl⟩, fun _ _ => rfl⟩
theorem Grow.trans {base : Nat} {E E1 E2 : Env} {H H1 H2 : Array Go.Obj} (h : Grow base E H E1 H1) (h' : Grow base E1 H1 E2 H2) : Grow base E H E2 H2 := by
  refine ⟨Nat.le_trans h.size h'.size, fun b i hi => ?_, fun b hb ho => ?_, fun b hi => ?_, fun b m hi => ?_, fun o ho => (h'.addr o ho).trans (h.addr o ho)⟩
  · have h1 := h.imm b i hi; have h2 := h'.imm b i h1.1; exact ⟨h2.1, h2.2.trans h1.2⟩
  · have h1 := h.other b hb ho; have h2 := h'.other b (Nat.lt_of_lt_of_le hb h.size) h1.1; exact ⟨h2.1, h2.2.trans h1.2⟩
  · have h1 := h.immT b hi; have h2 := h'.immT b h1.1; exact ⟨h2.1, h2.2.trans h1.2⟩
  · have h1 := h.lentT b m hi; have h2 := h'.lentT b m h1.1; exact ⟨h2.1, h2.2.trans h1.2⟩
theorem Grow.retag (base : Nat) (E : Env) (f : Home → Home) (H : Array Go.Obj) : Grow base E H (E.retag f) H :=
  ⟨Nat.le_refl _, Env.retag_c1 E f H, fun _ _ h => ⟨Env.retag_other h, rfl⟩, fun _ h => ⟨Env.retag_immTag h, rfl⟩, fun _ _ h => ⟨by simp [Env.retag, h], rfl⟩, fun _ _ => rfl⟩
section
variable {n base : Nat} {E E' : Env} {σ σ' : St} {hs : List V} {ts xs : List Value} {H H' : Array Go.Obj}
structure CoreS (n : Nat) (E : Env) (σ : St) (hs : List V) (ts xs : List Value) (H : Array Go.Obj) : Prop where
  sl : σ.slots.length = n
  tl : ts.length = n
  core : Core n E (σ.slots ++ hs) σ.objs (ts ++ xs) H
theorem CoreS.hl (hC : CoreS n E σ hs ts xs H) : hs.length = xs.length := by have := hC.core.len; simp [hC.sl, hC.tl] at this; exact this
def ConstOk (v : V) (x : Value) : Prop :=
  (∀ (E : Env) (slots : List V) (objs : List (Option Obj)) (vals : List Value) (H : Array Go.Obj) (s : Nat), SlotRel E slots objs vals H s v x) ∧ v.refs = [] ∧ ∀ u ∈ v.leaves, u.own = false
def OpdOk (ts : List Value) : Opd → Value → Prop
  | .tmp t, x => ts.getD t undef = x
  | .val v, x => ConstOk v x
theorem ct_real (h : σ.slots.length = n) {hh : Home} (hn : ∀ t i, hh = .slot t i → t < n) : ct (σ.slots ++ hs) σ.objs hh = ct σ.slots σ.objs hh := by
  cases hh with
  | slot s i => exact ct_append_left _ _ _ _ _ (h ▸ hn s i rfl)
  | obj o i => rfl
theorem ct_real' (h : σ.slots.length = n) {hh : Home} {u : V} (hu : ct σ.slots σ.objs hh = some u) (hg : ∀ g, u ≠ .gone g) : ct (σ.slots ++ hs) σ.objs hh = some u ∧ ∀ t i, hh = .slot t i → t < n := by
  have hn : ∀ t i, hh = .slot t i → t < n := by
    rintro t i rfl
    rcases Nat.lt_or_ge t n with h1 | h1
    · exact h1
    · exact absurd (ct_slot_big (h ▸ h1) hu) (hg 0)
  exact ⟨by rw [ct_real h hn]; exact hu, hn⟩
theorem CoreS.slotRel (hC : CoreS n E σ hs ts xs H) {t : Nat} (ht : t < n) : SlotRel E (σ.slots ++ hs) σ.objs (ts ++ xs) H t (σ.slot t) (ts.getD t undef) := by
  obtain ⟨v, hv⟩ := exists_getElem? (l := σ.slots) (i := t) (hC.sl ▸ ht)
  obtain ⟨x, hx⟩ := exists_getElem? (l := ts) (i := t) (hC.tl ▸ ht)
  have e1 : σ.slot t = v := getD_of_getElem? hv
  have e2 : ts.getD t undef = x := getD_of_getElem? hx
  rw [e1, e2]
  exact hC.core.slot t v x (by rw [List.getElem?_append_left (hC.sl ▸ ht)]; exact hv) (by rw [List.getElem?_append_left (hC.tl ▸ ht)]; exact hx)
theorem CoreS.slotBig (hC : CoreS n E σ hs ts xs H) {t : Nat} (ht : ¬ t < n) : σ.slot t = .gone 0 := by
  simp only [St.slot, List.getD]
  rw [List.getElem?_eq_none (by have := hC.sl; omega)]; rfl
theorem CoreS.slotRefs (hC : CoreS n E σ hs ts xs H) (t : Nat) : ∀ r ∈ (σ.slot t).refs, (∀ t i, r.1 = .slot t i → t < n) ∧ ∃ u, ct (σ.slots ++ hs) σ.objs r.1 = some u ∧ r.2 < u.nextg := by
  by_cases ht : t < n
  · obtain ⟨v, hv⟩ := exists_getElem? (l := σ.slots) (i := t) (hC.sl ▸ ht)
    have e1 : σ.slot t = v := getD_of_getElem? hv
    rw [e1]
    exact hC.core.refs t v (by rw [List.getElem?_append_left (hC.sl ▸ ht)]; exact hv)
  · rw [hC.slotBig ht]; intro r hr; simp [V.refs, V.refs1] at hr
theorem CoreS.push (hC : CoreS n E σ hs ts xs H) {v : V} {x : Value} (ho : ∀ u ∈ v.leaves, u.own = false) (hS : SlotRel E (σ.slots ++ hs) σ.objs (ts ++ xs) H 0 v x)
    (hr : ∀ r ∈ v.refs, (∀ t i, r.1 = .slot t i → t < n) ∧ ∃ u, ct (σ.slots ++ hs) σ.objs r.1 = some u ∧ r.2 < u.nextg) : CoreS n E σ (hs ++ [v]) ts (xs ++ [x]) H := by
  refine ⟨hC.sl, hC.tl, ?_⟩
  rw [← List.append_assoc, ← List.append_assoc]
  refine hC.core.push ⟨hS.1, fun i u y hu hy => ?_⟩ hr
  have hk := HomesKept.push hC.core v x
  have h1 := ho u (List.mem_of_getElem? hu)
  exact (hS.2 i u y hu hy).move (fun _ _ h => ⟨h, rfl⟩) (fun h => by rw [h1] at h; cases h) (fun h => by rw [h1] at h; cases h) (fun _ _ h => ⟨rfl, h⟩) (fun _ _ _ _ h => ⟨rfl, h⟩) fun r hr' sz hvl => hk.c4 (hr r (mem_refs hu hr')) sz hvl
theorem CoreS.pop {v : V} {x : Value} (hC : CoreS n E σ (hs ++ [v]) ts (xs ++ [x]) H) : CoreS n E σ hs ts xs H := by
  refine ⟨hC.sl, hC.tl, ?_⟩
  have := hC.core
  rw [← List.append_assoc, ← List.append_assoc] at this
  exact this.pop (by simp [hC.sl])
theorem CoreS.pops : ∀ (m : Nat) {vs : List V} {ys : List Value}, vs.length = m → ys.length = m → CoreS n E σ (hs ++ vs) ts (xs ++ ys) H → CoreS n E σ hs ts xs H
  | 0, vs, ys, h1, h2, hC => by
    have e1 : vs = [] := List.eq_nil_of_length_eq_zero h1
    have e2 : ys = [] := List.eq_nil_of_length_eq_zero h2
    subst e1 e2; simpa using hC
  | m + 1, vs, ys, h1, h2, hC => by
    rcases List.eq_nil_or_concat vs with rfl | ⟨us, u, rfl⟩
    · simp at h1
    · rcases List.eq_nil_or_concat ys with rfl | ⟨zs, z, rfl⟩
      · simp at h2
      · simp only [List.concat_eq_append] at hC h1 h2
        rw [← List.append_assoc, ← List.append_assoc] at hC
        exact CoreS.pops m (by simpa using h1) (by simpa using h2) hC.pop
theorem CoreS.put {v : V} {x : Value} (hC : CoreS n E σ (hs ++ [v]) ts (xs ++ [x]) H) {d : Nat} (hd : d < n) {ls : List V} (hr : regens (σ.slots.getD d (.gone 0)).leaves v.leaves = some ls) :
    CoreS n (E.retag (mv (n + hs.length) d)) (σ.setS d (v.withLeaves ls)) hs (ts.set d x) xs H := by
  have h1 := hC.core
  have hl := hC.hl
  rw [← List.append_assoc, ← List.append_assoc] at h1
  have h2 := h1.put (by simp [hC.sl]) hd (ls := ls) (by rw [getD_append_left _ _ _ _ (by rw [hC.sl]; exact hd)]; exact hr)
  refine ⟨by simp [St.setS, hC.sl], by simp [hC.tl], ?_⟩
  rw [show (σ.slots ++ hs).length = n + hs.length from by simp [hC.sl]] at h2
  rw [List.set_append_left _ _ (by rw [hC.sl]; exact hd), List.set_append_left _ _ (by rw [hC.tl]; exact hd)] at h2
  exact h2
theorem CoreS.take (hC : CoreS n E σ hs ts xs H) {t : Nat} (ht : t < n) : CoreS n (E.retag (mv t (n + hs.length))) (σ.setS t (σ.slot t).wipe) (hs ++ [σ.slot t]) ts (xs ++ [ts.getD t undef]) H := by
  obtain ⟨v, hv⟩ := exists_getElem? (l := σ.slots) (i := t) (hC.sl ▸ ht)
  obtain ⟨x, hx⟩ := exists_getElem? (l := ts) (i := t) (hC.tl ▸ ht)
  have e1 : σ.slot t = v := getD_of_getElem? hv
  have e2 : ts.getD t undef = x := getD_of_getElem? hx
  rw [e1, e2]
  have h2 := hC.core.move (t := t) (v := v) (x := x) (by rw [List.getElem?_append_left (hC.sl ▸ ht)]; exact hv) (by rw [List.getElem?_append_left (hC.tl ▸ ht)]; exact hx)
  refine ⟨by simp [St.setS, hC.sl], hC.tl, ?_⟩
  rw [show (σ.slots ++ hs).length = n + hs.length from by simp [hC.sl], List.set_append_left _ _ (by rw [hC.sl]; exact ht)] at h2
  rw [← List.append_assoc, ← List.append_assoc]
  exact h2
end
end Go.Vq
namespace Go.Vq
section
variable {n base : Nat} {E E' : Env} {σ σ' : St} {hs : List V} {ts xs : List Value} {H H' : Array Go.Obj}
theorem layTup_twice : ∀ (vs l1 l2 : List V), partsOk vs → l1.length = (vs.flatMap V.cells).length → (∀ u ∈ l1, u.leaf = true) → l2.length = (vs.flatMap V.cells).length → layTup (layTup vs l1) l2 = layTup vs l2
  | [], _, _, _, _, _, _ => rfl
  | v :: vs, l1, l2, hp, h1, hl, h2 => by
    have hp' : partsOk vs := fun v hv => hp v (List.mem_cons_of_mem _ hv)
    rw [List.flatMap_cons, List.length_append] at h1 h2
    rcases hp v (List.mem_cons_self ..) with hv | ⟨cs, rfl⟩
    · rw [cells_leaf hv] at h1 h2
      cases l1 with
      | nil => simp at h1; omega
      | cons u l1 =>
        cases l2 with
        | nil => simp at h2; omega
        | cons w l2 =>
          rw [layTup_leaf hv, layTup_leaf hv]
          simp only [List.headD_cons, List.drop_succ_cons, List.drop_zero]
          rw [layTup_leaf (hl u (List.mem_cons_self ..))]
          simp only [List.headD_cons, List.drop_succ_cons, List.drop_zero]
          rw [layTup_twice vs l1 l2 hp' (by simp at h1 ⊢; omega) (fun w hw => hl w (List.mem_cons_of_mem _ hw)) (by simp at h2 ⊢; omega)]
    · simp only [V.cells] at h1 h2
      simp only [layTup]
      rw [List.length_take, Nat.min_eq_left (by omega),
        layTup_twice vs _ _ hp' (by rw [List.length_drop]; omega) (fun u hu => hl u (List.mem_of_mem_drop hu)) (by rw [List.length_drop]; omega)]
theorem withLeaves_twice {v : V} {l1 l2 : List V} (hf : v.formed) (h1 : l1.length = v.leaves.length) (hl : ∀ u ∈ l1, u.leaf = true) (h2 : l2.length = v.leaves.length) : (v.withLeaves l1).withLeaves l2 = v.withLeaves l2 := by
  by_cases hv : v.leaf = true
  · rw [withLeaves_leaf hv, withLeaves_leaf hv]
    rw [leaves_leaf hv] at h1 h2
    cases l1 with
    | nil => simp at h1
    | cons u l1 =>
      cases l2 with
      | nil => simp at h2
      | cons w l2 => simp only [List.headD_cons]; rw [withLeaves_leaf (hl u (List.mem_cons_self ..))]; rfl
  · rcases not_leaf_agg hv with ⟨cs, rfl⟩ | ⟨vs, rfl⟩
    · rfl
    · simp only [V.withLeaves]
      rw [layTup_twice vs l1 l2 hf h1 hl h2]
theorem layTup_same : ∀ (vs : List V), partsOk vs → layTup vs (vs.flatMap V.cells) = vs
  | [], _ => rfl
  | v :: vs, hp => by
    have hp' : partsOk vs := fun v hv => hp v (List.mem_cons_of_mem _ hv)
    rcases hp v (List.mem_cons_self ..) with hv | ⟨cs, rfl⟩
    · rw [layTup_leaf hv, List.flatMap_cons, cells_leaf hv]
      simp [layTup_same vs hp']
    · simp [layTup, V.cells, layTup_same vs hp']
theorem withLeaves_same {v : V} (hf : v.formed) : v.withLeaves v.leaves = v := by
  by_cases hv : v.leaf = true
  · rw [withLeaves_leaf hv, leaves_leaf hv]; rfl
  · rcases not_leaf_agg hv with ⟨cs, rfl⟩ | ⟨vs, rfl⟩
    · rfl
    · simp only [V.withLeaves, V.leaves]; rw [layTup_same vs hf]
def St.turn (σ : St) (h : Home) (u : V) : St := ⟨setSlots σ.slots h u, setObjs' σ.objs h u⟩
theorem setSlots_len (slots : List V) (h : Home) (u : V) : (setSlots slots h u).length = slots.length := by cases h <;> simp [setSlots]
theorem setSlots_append {slots hs : List V} {h : Home} {u : V} (hn : ∀ t i, h = .slot t i → t < slots.length) : setSlots (slots ++ hs) h u = setSlots slots h u ++ hs := by
  cases h with
  | slot s i =>
    have := hn s i rfl
    simp only [setSlots]
    rw [getD_append_left _ _ _ _ this, List.set_append_left _ _ this]
  | obj o i => rfl
theorem CoreS.turnHome (hC : CoreS n E σ hs ts xs H) {h : Home} {u u' : V} (hu : ct σ.slots σ.objs h = some u) (hg : ∀ g, u ≠ .gone g)
    (hin : u'.leaf = true ∧ u'.refs1 = [] ∧ (∀ o off, h = .obj o off → u'.inObj = true))
    (hng : u.nextg ≤ u'.nextg ∧ (u'.gen? = u.gen? ∨ ∀ g sz, u'.gen? = some (g, sz) → u.nextg ≤ g))
    (ca : E'.addr = E.addr) (c1 : ∀ b i, E.imm b i → E'.imm b i) (c2 : ∀ h' w, h' ≠ h → ct (σ.slots ++ hs) σ.objs h' = some w → w.own = true → ∀ b, E.tag b = .home h' → E'.tag b = .home h') (c2' : ∀ h' w, h' ≠ h → ct (σ.slots ++ hs) σ.objs h' = some w → w.own = true → ∀ b m, E.tag b = .tail h' m → E'.tag b = .tail h' m)
    (c0 : ∀ b o, E.tag b = .obj o → E'.tag b = .obj o) (cf : ∀ b, E.tag b = .other → E'.tag b = .other)
    (hrel : ∀ y, hd E (ts ++ xs) H h = some y → RelV E (σ.slots ++ hs) σ.objs (ts ++ xs) H h u y → RelV E' ((σ.turn h u').slots ++ hs) (σ.turn h u').objs (ts ++ xs) H h u' y) :
    CoreS n E' (σ.turn h u') hs ts xs H := by
  obtain ⟨h1, h2⟩ := ct_real' (n := n) (hs := hs) hC.sl hu hg
  refine ⟨by simp [St.turn, setSlots_len, hC.sl], hC.tl, ?_⟩
  have e := setSlots_append (slots := σ.slots) (hs := hs) (u := u') (h := h) (by rw [hC.sl]; exact h2)
  have := hC.core.turn (u' := u') h1 hg hin (fun _ => hng) ca c1 c2 c2' c0 cf (by rw [e]; exact hrel)
  rw [e] at this
  exact this
theorem CoreS.turnHand {w : V} {x : Value} (hC : CoreS n E σ (hs ++ [w]) ts (xs ++ [x]) H) {off : Nat} {u u' : V} (hu : w.leaves[off]? = some u) (hg : ∀ g, u ≠ .gone g)
    (hin : u'.leaf = true ∧ u'.refs1 = [])
    (ca : E'.addr = E.addr) (c1 : ∀ b i, E.imm b i → E'.imm b i) (c2 : ∀ h' w', h' ≠ .slot (n + hs.length) off → ct (σ.slots ++ (hs ++ [w])) σ.objs h' = some w' → w'.own = true → ∀ b, E.tag b = .home h' → E'.tag b = .home h') (c2' : ∀ h' w', h' ≠ .slot (n + hs.length) off → ct (σ.slots ++ (hs ++ [w])) σ.objs h' = some w' → w'.own = true → ∀ b m, E.tag b = .tail h' m → E'.tag b = .tail h' m)
    (c0 : ∀ b o, E.tag b = .obj o → E'.tag b = .obj o) (cf : ∀ b, E.tag b = .other → E'.tag b = .other)
    (hrel : ∀ y, (vleaves x)[off]? = some y → RelV E (σ.slots ++ (hs ++ [w])) σ.objs (ts ++ (xs ++ [x])) H (.slot (n + hs.length) off) u y → ∀ slots', RelV E' slots' σ.objs (ts ++ (xs ++ [x])) H (.slot (n + hs.length) off) u' y) :
    CoreS n E' σ (hs ++ [w.withLeaves (w.leaves.set off u')]) ts (xs ++ [x]) H := by
  have hl := hC.hl
  have hN : σ.slots ++ (hs ++ [w]) = (σ.slots ++ hs) ++ [w] := by rw [List.append_assoc]
  have eg : (σ.slots ++ (hs ++ [w])).getD (n + hs.length) (.gone 0) = w := by
    apply getD_of_getElem?
    rw [hN, List.getElem?_append_right (by simp [hC.sl])]
    simp [hC.sl]
  have ex : (ts ++ (xs ++ [x]))[n + hs.length]? = some x := by
    have hl' : hs.length = xs.length := by simpa using hl
    rw [← List.append_assoc, List.getElem?_append_right (by simp [hC.tl, hl'])]
    simp [hC.tl, hl']
  have hct : ct (σ.slots ++ (hs ++ [w])) σ.objs (.slot (n + hs.length) off) = some u := by simp only [ct, eg]; exact hu
  have e : setSlots (σ.slots ++ (hs ++ [w])) (.slot (n + hs.length) off) u' = σ.slots ++ (hs ++ [w.withLeaves (w.leaves.set off u')]) := by
    simp only [setSlots, eg]
    rw [hN, List.set_append_right _ _ (by simp [hC.sl])]
    simp [hC.sl]
  have := hC.core.turn (E' := E') (u' := u') hct hg ⟨hin.1, hin.2, fun o off h => by cases h⟩ (fun h => absurd (h _ _ rfl) (by omega)) ca c1 c2 c2' c0 cf
    (fun y hy hv => hrel y (by simp only [hd, ex, Option.bind_some] at hy; exact hy) hv _)
  rw [e] at this
  exact ⟨hC.sl, hC.tl, this⟩
def Env.tailAt (E : Env) (b m : Nat) (h : Home) : Env := { E with tag := fun b' => if b' = b then .tail h m else E.tag b' }
theorem CoreS.freeze (hC : CoreS n E σ hs ts xs H) {h : Home} {g sz : Nat} {es : List V} (hu : ct σ.slots σ.objs h = some (.xsl g sz es)) :
    ∃ E', CoreS n E' (σ.turn h (.fsl g sz es)) hs ts xs H ∧ Grow base E H E' H ∧ E'.addr = E.addr := by
  obtain ⟨h1, h2⟩ := ct_real' (n := n) (hs := hs) hC.sl hu (fun g => by simp)
  obtain ⟨y, hy, hv⟩ := hC.core.at_ h1 (fun g => by simp)
  obtain ⟨a, cap, e1, e2, e3, e4, e5, e6⟩ := hv
  by_cases hc : cap = 0
  · refine ⟨E, hC.turnHome hu (fun g => by simp) ⟨rfl, rfl, fun _ _ _ => rfl⟩ ⟨Nat.le_refl _, .inl rfl⟩ rfl (fun _ _ h => h) (fun _ _ _ _ _ _ h => h) (fun _ _ _ _ _ _ _ h => h) (fun _ _ h => h) (fun _ h => h) ?_, Grow.refl _ _ _, rfl⟩
    intro y' hy' _
    rw [hy] at hy'; cases hy'
    exact ⟨a, cap, e1, e2, e3, e4, fun h => absurd hc h, e6⟩
  · obtain ⟨ad, arr, T, f, f1, f2, f3, f4, f5⟩ := e5 hc
    subst f1
    have hne : ∀ b, E.tag b ≠ .home h → b ≠ ad.block := fun b hb e => hb (e ▸ f2)
    have c1 : ∀ b i, E.imm b i → (E.tailAt ad.block (ad.off + es.length * sz) h).imm b i := by
      intro b i hi
      by_cases hb : b = ad.block
      · subst hb; simp [Env.imm, f2] at hi
      · simp only [Env.imm, Env.tailAt, if_neg hb] at hi ⊢; exact hi
    have ct' : ∀ b, b ≠ ad.block → (E.tailAt ad.block (ad.off + es.length * sz) h).tag b = E.tag b := fun b hb => by simp [Env.tailAt, hb]
    refine ⟨E.tailAt ad.block (ad.off + es.length * sz) h, hC.turnHome hu (fun g => by simp) ⟨rfl, rfl, fun _ _ _ => rfl⟩ ⟨Nat.le_refl _, .inl rfl⟩ rfl c1 ?_ ?_ ?_ ?_ ?_, ?_, rfl⟩
    · intro h' w hh _ _ b hb
      rw [ct' b (hne b (by rw [hb]; simp [hh]))]; exact hb
    · intro h' w hh _ _ b m hb
      rw [ct' b (hne b (by rw [hb]; simp))]; exact hb
    · intro b o hb
      rw [ct' b (hne b (by rw [hb]; simp))]; exact hb
    · intro b hb
      rw [ct' b (hne b (by rw [hb]; simp))]; exact hb
    · intro y' hy' _
      rw [hy] at hy'; cases hy'
      refine ⟨some ad, cap, e1, e2, e3, e4, fun _ => ⟨ad, arr, T, f, rfl, by simp [Env.tailAt], f3, f4, f5⟩, ?_⟩
      exact e6.mono (fun b i h => ⟨c1 b i h, rfl⟩) (fun _ _ => rfl)
    · refine ⟨Nat.le_refl _, fun b i h => ⟨c1 b i h, rfl⟩, fun b _ hb => ⟨?_, rfl⟩, fun b hb => ⟨?_, rfl⟩, fun b m hb => ⟨?_, rfl⟩, fun _ _ => rfl⟩
      · rw [ct' b (hne b (by rw [hb]; simp))]; exact hb
      · rw [ct' b (hne b (by rw [hb]; simp))]; exact hb
      · rw [ct' b (hne b (by rw [hb]; simp))]; exact hb
theorem CoreS.letGo (hC : CoreS n E σ hs ts xs H) {h : Home} {u : V} (hu : ct σ.slots σ.objs h = some u) (ho : u.own = true) : CoreS n E (σ.turn h (.gone u.nextg)) hs ts xs H := by
  refine hC.turnHome hu (fun g e => by subst e; simp [V.own] at ho) ⟨rfl, rfl, fun _ _ _ => rfl⟩ ⟨Nat.le_refl _, .inr fun g sz h => by cases h⟩ rfl (fun _ _ h => h) (fun _ _ _ _ _ _ h => h) (fun _ _ _ _ _ _ _ h => h) (fun _ _ h => h) (fun _ h => h) (fun _ _ _ => trivial)
structure View (imm : Nat → Nat → Prop) (H : Array Go.Obj) (sz : Nat) (es : List V) (x : Value) (a : Option Addr) (cap : Nat) : Prop where
  eq : x = .slice a es.length cap
  le : es.length ≤ cap
  nil : a = none → cap = 0
  spot : ∀ ad, a = some ad → cap ≠ 0 → ad.spot = none
  elems : Elems imm H a sz es
theorem View.of_nil {imm : Nat → Nat → Prop} (sz : Nat) : View imm H sz [] (.slice none 0 0) none 0 := ⟨rfl, Nat.le_refl _, fun _ => rfl, fun _ h => (by cases h), Elems.nil _ _ _ _⟩
theorem View.of_isl {imm : Nat → Nat → Prop} {g sz : Nat} {es : List V} {x : Value} (h : RelI imm H (.isl g sz es) x) : ∃ a cap, View imm H sz es x a cap ∧
    ∀ (ad : Addr) (i : Nat) (e : V) (j : Nat), a = some ad → es[i]? = some e → j < e.cells.length → imm ad.block (ad.off + (i * sz + j)) := by
  obtain ⟨a, cap, h1, h2, h3, h4, h5, h6⟩ := isl_elems h
  exact ⟨a, cap, ⟨h1, h2, h3, h4, h5⟩, h6⟩
theorem View.of_srf {slots : List V} {objs : List (Option Obj)} {vals : List Value} {h0 h : Home} {g sz off len : Nat} {es : List V} {x y : Value} {a : Option Addr} {cap : Nat}
    (hx : RelV E slots objs vals H h0 (.srf h g sz off len) x) (hvl : valid slots objs h g sz) (hy : hd E vals H h = some y) (hw : View E.imm H sz es y a cap) (hle : off + len ≤ es.length) :
    ∃ a' cap', View E.imm H sz ((es.drop off).take len) x a' cap' ∧ (cap' ≠ 0 → ∃ ad, a = some ad ∧ a' = some ⟨ad.block, ad.off + off * sz, none⟩ ∧ off + cap' ≤ cap) := by
  obtain ⟨a', c', e2, e3, e4, e5, hx⟩ := hx
  obtain ⟨a0, l, c, e1, e6⟩ := hx hvl
  rw [hy] at e1; cases e1
  have hw1 := hw.eq
  cases hw1
  have hlen : ((es.drop off).take len).length = len := by rw [List.length_take, List.length_drop]; omega
  refine ⟨a', c', ⟨by rw [hlen]; exact e2, by rw [hlen]; exact e3, e4, e5, ?_⟩, e6⟩
  by_cases hc : c' = 0
  · have : (es.drop off).take len = [] := by
      apply List.eq_nil_of_length_eq_zero; omega
    rw [this]; exact Elems.nil _ _ _ _
  · obtain ⟨ad, f1, f2, f3⟩ := e6 hc
    subst f1 f2
    exact hw.elems.sub
theorem Core.homeView {slots : List V} {objs : List (Option Obj)} {vals : List Value} (hC : Core n E slots objs vals H) {h : Home} {u : V} {g sz : Nat} {es : List V} (hu : ct slots objs h = some u) (hk : u = .xsl g sz es ∨ u = .isl g sz es ∨ u = .fsl g sz es) :
    ∃ y a cap, hd E vals H h = some y ∧ View E.imm H sz es y a cap ∧
      (u = .xsl g sz es → cap ≠ 0 → ∃ ad arr T f, a = some ad ∧ E.tag ad.block = .home h ∧ H[ad.block]? = some (.cells arr T f) ∧ ad.off + cap * sz ≤ arr.size ∧ open_ f arr.size) ∧
      (u = .fsl g sz es → cap ≠ 0 → ∃ ad arr T f, a = some ad ∧ E.tag ad.block = .tail h (ad.off + es.length * sz) ∧ H[ad.block]? = some (.cells arr T f) ∧ ad.off + cap * sz ≤ arr.size ∧ open_ f arr.size) ∧
      (u ≠ .xsl g sz es → ∀ (ad : Addr) (i : Nat) (e : V) (j : Nat), a = some ad → es[i]? = some e → j < e.cells.length → E.imm ad.block (ad.off + (i * sz + j))) := by
  obtain ⟨y, hy, hv⟩ := hC.at_ hu (by rintro g' rfl; rcases hk with h | h | h <;> cases h)
  rcases hk with rfl | rfl | rfl
  · obtain ⟨a, cap, e1, e2, e3, e4, e5, e6⟩ := hv
    exact ⟨y, a, cap, hy, ⟨e1, e2, e3, e4, e6⟩, fun _ => e5, fun h => (by cases h), fun h => absurd rfl h⟩
  · obtain ⟨a, cap, hw, hi⟩ := View.of_isl hv
    exact ⟨y, a, cap, hy, hw, fun h => (by cases h), fun h => (by cases h), fun _ => hi⟩
  · obtain ⟨a, cap, e1, e2, e3, e4, e5, e6⟩ := hv
    refine ⟨y, a, cap, hy, ⟨e1, e2, e3, e4, e6⟩, fun h => (by cases h), fun _ => e5, fun _ ad i e j ha hi hj => ?_⟩
    have hlt := lt_of_getElem? hi
    obtain ⟨ad', arr, T, f, f1, f2, _⟩ := e5 (by omega)
    rw [ha] at f1; cases f1
    simp only [Env.imm, f2]
    rw [(e6.1 e (List.mem_of_getElem? hi)).1] at hj
    have : i * sz + j < es.length * sz := by
      calc i * sz + j < i * sz + sz := by omega
        _ = (i + 1) * sz := by rw [Nat.add_mul, Nat.one_mul]
        _ ≤ es.length * sz := Nat.mul_le_mul_right _ hlt
    omega
theorem mem_sub {es : List V} {off len i : Nat} {e : V} (h : ((es.drop off).take len)[i]? = some e) : es[off + i]? = some e ∧ i < len := by
  rw [List.getElem?_take] at h
  split at h
  · rename_i hi; rw [List.getElem?_drop] at h; exact ⟨h, hi⟩
  · cases h
theorem isl_of_view {imm : Nat → Nat → Prop} {sz g : Nat} {es : List V} {x : Value} {a : Option Addr} {cap : Nat} (hw : View imm H sz es x a cap)
    (hi : ∀ (ad : Addr) (i : Nat) (e : V) (j : Nat), a = some ad → es[i]? = some e → j < e.cells.length → imm ad.block (ad.off + (i * sz + j))) : RelI imm H (.isl g sz es) x := by
  rw [hw.eq]
  refine isl_of hw.elems hw.le hw.nil hw.spot fun ad k ha hk => ?_
  by_cases hz : sz = 0
  · subst hz; simp at hk
  · have h1 : k / sz < es.length := Nat.div_lt_of_lt_mul (by rw [Nat.mul_comm]; exact hk)
    obtain ⟨e, he⟩ := exists_getElem? h1
    have h2 := hi ad (k / sz) e (k % sz) ha he (by rw [(hw.elems.1 e (List.mem_of_getElem? he)).1]; exact Nat.mod_lt _ (by omega))
    rw [Nat.mul_comm, Nat.div_add_mod] at h2; exact h2
theorem isl_of_sub {imm : Nat → Nat → Prop} {sz g off len : Nat} {es : List V} {x : Value} {a a' : Option Addr} {cap cap' : Nat} (hw : View imm H sz ((es.drop off).take len) x a' cap')
    (ha : cap' ≠ 0 → ∃ ad, a = some ad ∧ a' = some ⟨ad.block, ad.off + off * sz, none⟩ ∧ off + cap' ≤ cap)
    (hi : ∀ (ad : Addr) (i : Nat) (e : V) (j : Nat), a = some ad → es[i]? = some e → j < e.cells.length → imm ad.block (ad.off + (i * sz + j))) : RelI imm H (.isl g sz ((es.drop off).take len)) x := by
  refine isl_of_view hw fun ad i e j h1 h2 h3 => ?_
  obtain ⟨h4, h5⟩ := mem_sub h2
  have hc : cap' ≠ 0 := by have := lt_of_getElem? h2; have := hw.le; omega
  obtain ⟨ad0, e1, e2, _⟩ := ha hc
  rw [h1] at e2; cases e2
  have := hi ad0 _ e j e1 h4 h3
  rw [show ad0.off + off * sz + (i * sz + j) = ad0.off + ((off + i) * sz + j) by rw [Nat.add_mul]; omega]
  exact this
end
end Go.Vq
