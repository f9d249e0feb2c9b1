/- A machine of values and its tie to the model: part 2 of 7 (no law of Go is stated here). -/
import Derived.Test.YtbbpandancpibaaF1
import Derived.Calls
import Derived.Laws.Sem
import Derived.Laws.Cells
import Derived.Laws.Strings
import Derived.Laws.Entries
import Derived.ChangeKeysEq
import Derived.Laws.Cover3
set_option linter.unusedVariables false
set_option linter.unusedSimpArgs false
/- The pieces of programs: what their runs tell, and what stays true behind them (no law of Go is stated here). -/
namespace Go.Vq

/-! ### what a run tells -/
section
variable {σ σ' : St}
theorem Prog.run_ite (c : Prop) [Decidable c] (p q : Prog) : (if c then p else q).run σ = if c then p.run σ else q.run σ := by split <;> rfl
theorem gHome_run {h : Home} {k : V → Prog} (hr : (gHome h k).run σ = some σ') : ∃ v, ct σ.slots σ.objs h = some v ∧ (k v).run σ = some σ' := by
  cases h with
  | slot s off =>
    simp only [gHome, Prog.run, St.slot] at hr
    split at hr
    · rename_i x hx; exact ⟨x, hx, hr⟩
    · cases hr
  | obj o off =>
    simp only [gHome, Prog.run, St.obj] at hr
    split at hr
    · rename_i cs ho
      split at hr
      · rename_i x hx
        refine ⟨x, ?_, hr⟩
        have : σ.objs[o]? = some (some (.cells cs)) := by
          simp only [List.getD] at ho
          cases h : σ.objs[o]? with
          | none => simp [h] at ho
          | some y => simp [h] at ho; rw [ho]
        simp only [ct, this]; exact hx
      · cases hr
    · cases hr
theorem sHome_run {h : Home} {x : V} {k : Prog} (hr : (sHome h x k).run σ = some σ') :
    (∃ u, ct σ.slots σ.objs h = some u) ∧ k.run ⟨setSlots σ.slots h x, setObjs' σ.objs h x⟩ = some σ' := by
  cases h with
  | slot s off =>
    simp only [sHome, Prog.run] at hr
    rw [Prog.run_ite] at hr
    split at hr
    · rename_i hlt
      exact ⟨⟨_, List.getElem?_eq_getElem hlt⟩, hr⟩
    · cases hr
  | obj o off =>
    simp only [sHome, Prog.run, St.obj] at hr
    split at hr
    · rename_i cs ho
      rw [Prog.run_ite] at hr
      split at hr
      · rename_i hlt
        have h1 : σ.objs[o]? = some (some (.cells cs)) := by
          simp only [List.getD] at ho
          cases h : σ.objs[o]? with
          | none => simp [h] at ho
          | some y => simp [h] at ho; rw [ho]
        refine ⟨⟨cs[off], by simp only [ct, h1]; exact List.getElem?_eq_getElem hlt⟩, ?_⟩
        simp only [setSlots, setObjs', ho]
        simp only [Prog.run] at hr
        rw [if_pos (lt_of_getElem? h1)] at hr
        exact hr
      · cases hr
    · cases hr
theorem gElems_run {h : Home} {g sz : Nat} {k : Bool → List V → Prog} (h0 : (gElems h g sz k).run σ = some σ') :
    ∃ u own es, ct σ.slots σ.objs h = some u ∧ ((u = .xsl g sz es ∧ own = true) ∨ ((u = .isl g sz es ∨ u = .fsl g sz es) ∧ own = false)) ∧ (k own es).run σ = some σ' := by
  obtain ⟨v, hv, hr⟩ := gHome_run h0
  split at hr
  · rw [Prog.run_ite] at hr
    split at hr
    · rename_i hgs; obtain ⟨rfl, rfl⟩ := hgs; exact ⟨_, true, _, hv, .inl ⟨rfl, rfl⟩, hr⟩
    · cases hr
  · rw [Prog.run_ite] at hr
    split at hr
    · rename_i hgs; obtain ⟨rfl, rfl⟩ := hgs; exact ⟨_, false, _, hv, .inr ⟨.inl rfl, rfl⟩, hr⟩
    · cases hr
  · rw [Prog.run_ite] at hr
    split at hr
    · rename_i hgs; obtain ⟨rfl, rfl⟩ := hgs; exact ⟨_, false, _, hv, .inr ⟨.inr rfl, rfl⟩, hr⟩
    · cases hr
  · cases hr
theorem put_run {d : Nat} {v : V} {k : Prog} (hr : (put d v k).run σ = some σ') :
    ∃ ls, regens (σ.slots.getD d (.gone 0)).leaves v.leaves = some ls ∧ k.run (σ.setS d (v.withLeaves ls)) = some σ' := by
  simp only [put, Prog.run, St.slot] at hr
  split at hr
  · rename_i ls h; exact ⟨ls, h, hr⟩
  · cases hr
end

/-! ### what grows -/
/-- What a run may do to what it was given: what is not its own stays. -/
structure Grow (base : Nat) (E : Env) (H : Array Go.Obj) (E' : Env) (H' : Array Go.Obj) : Prop where
  size : H.size ≤ H'.size
  imm : ∀ b i, E.imm b i → E'.imm b i ∧ cellAt H' b i = cellAt H b i
  other : ∀ b, b < H.size → E.tag b = .other → E'.tag b = .other ∧ H'[b]? = H[b]?
  immT : ∀ b, E.tag b = .imm → E'.tag b = .imm ∧ H'[b]? = H[b]?
  lentT : ∀ b m, E.tag b = .lent m → E'.tag b = .lent m ∧ H'[b]? = H[b]?
  addr : ∀ o, o < base → E'.addr o = E.addr o
theorem Grow.refl (base : Nat) (E : Env) (H : Array Go.Obj) : Grow base E H E H := ⟨Nat.le_refl _, fun _ _ h => ⟨h, rfl⟩, fun _ _ h => ⟨h, rfl⟩, fun _ h => ⟨h, rfl⟩, fun _ _ h => ⟨h, rfl⟩, fun _ _ => rfl⟩
theorem Grow.trans {base : Nat} {E E1 E2 : Env} {H H1 H2 : Array Go.Obj} (h : Grow base E H E1 H1) (h' : Grow base E1 H1 E2 H2) : Grow base E H E2 H2 := by
  refine ⟨Nat.le_trans h.size h'.size, fun b i hi => ?_, fun b hb ho => ?_, fun b hi => ?_, fun b m hi => ?_, fun o ho => (h'.addr o ho).trans (h.addr o ho)⟩
  · have h1 := h.imm b i hi; have h2 := h'.imm b i h1.1; exact ⟨h2.1, h2.2.trans h1.2⟩
  · have h1 := h.other b hb ho; have h2 := h'.other b (Nat.lt_of_lt_of_le hb h.size) h1.1; exact ⟨h2.1, h2.2.trans h1.2⟩
  · have h1 := h.immT b hi; have h2 := h'.immT b h1.1; exact ⟨h2.1, h2.2.trans h1.2⟩
  · have h1 := h.lentT b m hi; have h2 := h'.lentT b m h1.1; exact ⟨h2.1, h2.2.trans h1.2⟩
theorem Grow.retag (base : Nat) (E : Env) (f : Home → Home) (H : Array Go.Obj) : Grow base E H (E.retag f) H :=
  ⟨Nat.le_refl _, Env.retag_c1 E f H, fun _ _ h => ⟨Env.retag_other h, rfl⟩, fun _ h => ⟨Env.retag_immTag h, rfl⟩, fun _ _ h => ⟨by simp [Env.retag, h], rfl⟩, fun _ _ => rfl⟩

/-! ### the frame's state -/
section
variable {n base : Nat} {E E' : Env} {σ σ' : St} {hs : List V} {ts xs : List Value} {H H' : Array Go.Obj}

structure CoreS (n : Nat) (E : Env) (σ : St) (hs : List V) (ts xs : List Value) (H : Array Go.Obj) : Prop where
  sl : σ.slots.length = n
  tl : ts.length = n
  core : Core n E (σ.slots ++ hs) σ.objs (ts ++ xs) H
theorem CoreS.hl (hC : CoreS n E σ hs ts xs H) : hs.length = xs.length := by have := hC.core.len; simp [hC.sl, hC.tl] at this; exact this

/-- Constants, which hang on nothing. -/
def ConstOk (v : V) (x : Value) : Prop :=
  (∀ (E : Env) (slots : List V) (objs : List (Option Obj)) (vals : List Value) (H : Array Go.Obj) (s : Nat), SlotRel E slots objs vals H s v x) ∧ v.refs = [] ∧ ∀ u ∈ v.leaves, u.own = false
/-- What an operand is in the model. -/
def OpdOk (ts : List Value) : Opd → Value → Prop
  | .tmp t, x => ts.getD t undef = x
  | .val v, x => ConstOk v x

theorem ct_real (h : σ.slots.length = n) {hh : Home} (hn : ∀ t i, hh = .slot t i → t < n) : ct (σ.slots ++ hs) σ.objs hh = ct σ.slots σ.objs hh := by
  cases hh with
  | slot s i => exact ct_append_left _ _ _ _ _ (h ▸ hn s i rfl)
  | obj o i => rfl
theorem ct_real' (h : σ.slots.length = n) {hh : Home} {u : V} (hu : ct σ.slots σ.objs hh = some u) (hg : ∀ g, u ≠ .gone g) : ct (σ.slots ++ hs) σ.objs hh = some u ∧ ∀ t i, hh = .slot t i → t < n := by
  have hn : ∀ t i, hh = .slot t i → t < n := by
    rintro t i rfl
    rcases Nat.lt_or_ge t n with h1 | h1
    · exact h1
    · exact absurd (ct_slot_big (h ▸ h1) hu) (hg 0)
  exact ⟨by rw [ct_real h hn]; exact hu, hn⟩

theorem regen_refl (v : V) (E : Env) : E.retag (fun h => h) = E := by
  cases E with
  | mk tag addr =>
    simp only [Env.retag, Env.mk.injEq, and_true]
    funext b; cases tag b <;> rfl

/-- What a slot holds is taken in hand as it is to be read: its slices stay where they are. -/
theorem CoreS.slotRel (hC : CoreS n E σ hs ts xs H) {t : Nat} (ht : t < n) : SlotRel E (σ.slots ++ hs) σ.objs (ts ++ xs) H t (σ.slot t) (ts.getD t undef) := by
  obtain ⟨v, hv⟩ := exists_getElem? (l := σ.slots) (i := t) (hC.sl ▸ ht)
  obtain ⟨x, hx⟩ := exists_getElem? (l := ts) (i := t) (hC.tl ▸ ht)
  have e1 : σ.slot t = v := getD_of_getElem? hv
  have e2 : ts.getD t undef = x := getD_of_getElem? hx
  rw [e1, e2]
  exact hC.core.slot t v x (by rw [List.getElem?_append_left (hC.sl ▸ ht)]; exact hv) (by rw [List.getElem?_append_left (hC.tl ▸ ht)]; exact hx)
theorem CoreS.slotBig (hC : CoreS n E σ hs ts xs H) {t : Nat} (ht : ¬ t < n) : σ.slot t = .gone 0 := by
  simp only [St.slot, List.getD]
  rw [List.getElem?_eq_none (by have := hC.sl; omega)]; rfl
theorem CoreS.slotRefs (hC : CoreS n E σ hs ts xs H) (t : Nat) : ∀ r ∈ (σ.slot t).refs, (∀ t i, r.1 = .slot t i → t < n) ∧ ∃ u, ct (σ.slots ++ hs) σ.objs r.1 = some u ∧ r.2 < u.nextg := by
  by_cases ht : t < n
  · obtain ⟨v, hv⟩ := exists_getElem? (l := σ.slots) (i := t) (hC.sl ▸ ht)
    have e1 : σ.slot t = v := getD_of_getElem? hv
    rw [e1]
    exact hC.core.refs t v (by rw [List.getElem?_append_left (hC.sl ▸ ht)]; exact hv)
  · rw [hC.slotBig ht]; intro r hr; simp [V.refs, V.refs1] at hr

/-- Something that owns nothing is taken in hand. -/
theorem CoreS.push (hC : CoreS n E σ hs ts xs H) {v : V} {x : Value} (ho : ∀ u ∈ v.leaves, u.own = false) (hS : SlotRel E (σ.slots ++ hs) σ.objs (ts ++ xs) H 0 v x)
    (hr : ∀ r ∈ v.refs, (∀ t i, r.1 = .slot t i → t < n) ∧ ∃ u, ct (σ.slots ++ hs) σ.objs r.1 = some u ∧ r.2 < u.nextg) : CoreS n E σ (hs ++ [v]) ts (xs ++ [x]) H := by
  refine ⟨hC.sl, hC.tl, ?_⟩
  rw [← List.append_assoc, ← List.append_assoc]
  refine hC.core.push ⟨hS.1, fun i u y hu hy => ?_⟩ hr
  have hk := HomesKept.push hC.core v x
  have h1 := ho u (List.mem_of_getElem? hu)
  exact (hS.2 i u y hu hy).move (fun _ _ h => ⟨h, rfl⟩) (fun h => by rw [h1] at h; cases h) (fun h => by rw [h1] at h; cases h) (fun _ _ h => ⟨rfl, h⟩) (fun _ _ _ _ h => ⟨rfl, h⟩) fun r hr' sz hvl => hk.c4 (hr r (mem_refs hu hr')) sz hvl
theorem CoreS.pop {v : V} {x : Value} (hC : CoreS n E σ (hs ++ [v]) ts (xs ++ [x]) H) : CoreS n E σ hs ts xs H := by
  refine ⟨hC.sl, hC.tl, ?_⟩
  have := hC.core
  rw [← List.append_assoc, ← List.append_assoc] at this
  exact this.pop (by simp [hC.sl])
theorem CoreS.pops : ∀ (m : Nat) {vs : List V} {ys : List Value}, vs.length = m → ys.length = m → CoreS n E σ (hs ++ vs) ts (xs ++ ys) H → CoreS n E σ hs ts xs H
  | 0, vs, ys, h1, h2, hC => by
    have e1 : vs = [] := List.eq_nil_of_length_eq_zero h1
    have e2 : ys = [] := List.eq_nil_of_length_eq_zero h2
    subst e1 e2; simpa using hC
  | m + 1, vs, ys, h1, h2, hC => by
    rcases List.eq_nil_or_concat vs with rfl | ⟨us, u, rfl⟩
    · simp at h1
    · rcases List.eq_nil_or_concat ys with rfl | ⟨zs, z, rfl⟩
      · simp at h2
      · simp only [List.concat_eq_append] at hC h1 h2
        rw [← List.append_assoc, ← List.append_assoc] at hC
        exact CoreS.pops m (by simpa using h1) (by simpa using h2) hC.pop

/-- The last thing in hand is laid into a slot. -/
theorem CoreS.put {v : V} {x : Value} (hC : CoreS n E σ (hs ++ [v]) ts (xs ++ [x]) H) {d : Nat} (hd : d < n) {ls : List V} (hr : regens (σ.slots.getD d (.gone 0)).leaves v.leaves = some ls) :
    CoreS n (E.retag (mv (n + hs.length) d)) (σ.setS d (v.withLeaves ls)) hs (ts.set d x) xs H := by
  have h1 := hC.core
  have hl := hC.hl
  rw [← List.append_assoc, ← List.append_assoc] at h1
  have h2 := h1.put (by simp [hC.sl]) hd (ls := ls) (by rw [getD_append_left _ _ _ _ (by rw [hC.sl]; exact hd)]; exact hr)
  refine ⟨by simp [St.setS, hC.sl], by simp [hC.tl], ?_⟩
  rw [show (σ.slots ++ hs).length = n + hs.length from by simp [hC.sl]] at h2
  rw [List.set_append_left _ _ (by rw [hC.sl]; exact hd), List.set_append_left _ _ (by rw [hC.tl]; exact hd)] at h2
  exact h2
/-- What a slot holds is taken in hand with all it owns. -/
theorem CoreS.take (hC : CoreS n E σ hs ts xs H) {t : Nat} (ht : t < n) : CoreS n (E.retag (mv t (n + hs.length))) (σ.setS t (σ.slot t).wipe) (hs ++ [σ.slot t]) ts (xs ++ [ts.getD t undef]) H := by
  obtain ⟨v, hv⟩ := exists_getElem? (l := σ.slots) (i := t) (hC.sl ▸ ht)
  obtain ⟨x, hx⟩ := exists_getElem? (l := ts) (i := t) (hC.tl ▸ ht)
  have e1 : σ.slot t = v := getD_of_getElem? hv
  have e2 : ts.getD t undef = x := getD_of_getElem? hx
  rw [e1, e2]
  have h2 := hC.core.move (t := t) (v := v) (x := x) (by rw [List.getElem?_append_left (hC.sl ▸ ht)]; exact hv) (by rw [List.getElem?_append_left (hC.tl ▸ ht)]; exact hx)
  refine ⟨by simp [St.setS, hC.sl], hC.tl, ?_⟩
  rw [show (σ.slots ++ hs).length = n + hs.length from by simp [hC.sl], List.set_append_left _ _ (by rw [hC.sl]; exact ht)] at h2
  rw [← List.append_assoc, ← List.append_assoc]
  exact h2
end
end Go.Vq
/- What is lent, frozen, taken back: the pieces of programs kept true (no law of Go is stated here). -/
namespace Go.Vq
section
variable {n base : Nat} {E E' : Env} {σ σ' : St} {hs : List V} {ts xs : List Value} {H H' : Array Go.Obj}

theorem layTup_twice : ∀ (vs l1 l2 : List V), partsOk vs → l1.length = (vs.flatMap V.cells).length → (∀ u ∈ l1, u.leaf = true) → l2.length = (vs.flatMap V.cells).length → layTup (layTup vs l1) l2 = layTup vs l2
  | [], _, _, _, _, _, _ => rfl
  | v :: vs, l1, l2, hp, h1, hl, h2 => by
    have hp' : partsOk vs := fun v hv => hp v (List.mem_cons_of_mem _ hv)
    rw [List.flatMap_cons, List.length_append] at h1 h2
    rcases hp v (List.mem_cons_self ..) with hv | ⟨cs, rfl⟩
    · rw [cells_leaf hv] at h1 h2
      cases l1 with
      | nil => simp at h1; omega
      | cons u l1 =>
        cases l2 with
        | nil => simp at h2; omega
        | cons w l2 =>
          rw [layTup_leaf hv, layTup_leaf hv]
          simp only [List.headD_cons, List.drop_succ_cons, List.drop_zero]
          rw [layTup_leaf (hl u (List.mem_cons_self ..))]
          simp only [List.headD_cons, List.drop_succ_cons, List.drop_zero]
          rw [layTup_twice vs l1 l2 hp' (by simp at h1 ⊢; omega) (fun w hw => hl w (List.mem_cons_of_mem _ hw)) (by simp at h2 ⊢; omega)]
    · simp only [V.cells] at h1 h2
      simp only [layTup]
      rw [List.length_take, Nat.min_eq_left (by omega),
        layTup_twice vs _ _ hp' (by rw [List.length_drop]; omega) (fun u hu => hl u (List.mem_of_mem_drop hu)) (by rw [List.length_drop]; omega)]
theorem withLeaves_twice {v : V} {l1 l2 : List V} (hf : v.formed) (h1 : l1.length = v.leaves.length) (hl : ∀ u ∈ l1, u.leaf = true) (h2 : l2.length = v.leaves.length) : (v.withLeaves l1).withLeaves l2 = v.withLeaves l2 := by
  by_cases hv : v.leaf = true
  · rw [withLeaves_leaf hv, withLeaves_leaf hv]
    rw [leaves_leaf hv] at h1 h2
    cases l1 with
    | nil => simp at h1
    | cons u l1 =>
      cases l2 with
      | nil => simp at h2
      | cons w l2 => simp only [List.headD_cons]; rw [withLeaves_leaf (hl u (List.mem_cons_self ..))]; rfl
  · rcases not_leaf_agg hv with ⟨cs, rfl⟩ | ⟨vs, rfl⟩
    · rfl
    · simp only [V.withLeaves]
      rw [layTup_twice vs l1 l2 hf h1 hl h2]
theorem layTup_same : ∀ (vs : List V), partsOk vs → layTup vs (vs.flatMap V.cells) = vs
  | [], _ => rfl
  | v :: vs, hp => by
    have hp' : partsOk vs := fun v hv => hp v (List.mem_cons_of_mem _ hv)
    rcases hp v (List.mem_cons_self ..) with hv | ⟨cs, rfl⟩
    · rw [layTup_leaf hv, List.flatMap_cons, cells_leaf hv]
      simp [layTup_same vs hp']
    · simp [layTup, V.cells, layTup_same vs hp']
theorem withLeaves_same {v : V} (hf : v.formed) : v.withLeaves v.leaves = v := by
  by_cases hv : v.leaf = true
  · rw [withLeaves_leaf hv, leaves_leaf hv]; rfl
  · rcases not_leaf_agg hv with ⟨cs, rfl⟩ | ⟨vs, rfl⟩
    · rfl
    · simp only [V.withLeaves, V.leaves]; rw [layTup_same vs hf]

/-- The state with another leaf at a home. -/
def St.turn (σ : St) (h : Home) (u : V) : St := ⟨setSlots σ.slots h u, setObjs' σ.objs h u⟩
theorem setSlots_len (slots : List V) (h : Home) (u : V) : (setSlots slots h u).length = slots.length := by cases h <;> simp [setSlots]
theorem setSlots_append {slots hs : List V} {h : Home} {u : V} (hn : ∀ t i, h = .slot t i → t < slots.length) : setSlots (slots ++ hs) h u = setSlots slots h u ++ hs := by
  cases h with
  | slot s i =>
    have := hn s i rfl
    simp only [setSlots]
    rw [getD_append_left _ _ _ _ this, List.set_append_left _ _ this]
  | obj o i => rfl

theorem CoreS.turnHome (hC : CoreS n E σ hs ts xs H) {h : Home} {u u' : V} (hu : ct σ.slots σ.objs h = some u) (hg : ∀ g, u ≠ .gone g)
    (hin : u'.leaf = true ∧ u'.refs1 = [] ∧ (∀ o off, h = .obj o off → u'.inObj = true))
    (hng : u.nextg ≤ u'.nextg ∧ (u'.gen? = u.gen? ∨ ∀ g sz, u'.gen? = some (g, sz) → u.nextg ≤ g))
    (ca : E'.addr = E.addr) (c1 : ∀ b i, E.imm b i → E'.imm b i) (c2 : ∀ h' w, h' ≠ h → ct (σ.slots ++ hs) σ.objs h' = some w → w.own = true → ∀ b, E.tag b = .home h' → E'.tag b = .home h') (c2' : ∀ h' w, h' ≠ h → ct (σ.slots ++ hs) σ.objs h' = some w → w.own = true → ∀ b m, E.tag b = .tail h' m → E'.tag b = .tail h' m)
    (c0 : ∀ b o, E.tag b = .obj o → E'.tag b = .obj o) (cf : ∀ b, E.tag b = .other → E'.tag b = .other)
    (hrel : ∀ y, hd E (ts ++ xs) H h = some y → RelV E (σ.slots ++ hs) σ.objs (ts ++ xs) H h u y → RelV E' ((σ.turn h u').slots ++ hs) (σ.turn h u').objs (ts ++ xs) H h u' y) :
    CoreS n E' (σ.turn h u') hs ts xs H := by
  obtain ⟨h1, h2⟩ := ct_real' (n := n) (hs := hs) hC.sl hu hg
  refine ⟨by simp [St.turn, setSlots_len, hC.sl], hC.tl, ?_⟩
  have e := setSlots_append (slots := σ.slots) (hs := hs) (u := u') (h := h) (by rw [hC.sl]; exact h2)
  have := hC.core.turn (u' := u') h1 hg hin (fun _ => hng) ca c1 c2 c2' c0 cf (by rw [e]; exact hrel)
  rw [e] at this
  exact this
/-- The last thing in hand: one leaf of it is turned. -/
theorem CoreS.turnHand {w : V} {x : Value} (hC : CoreS n E σ (hs ++ [w]) ts (xs ++ [x]) H) {off : Nat} {u u' : V} (hu : w.leaves[off]? = some u) (hg : ∀ g, u ≠ .gone g)
    (hin : u'.leaf = true ∧ u'.refs1 = [])
    (ca : E'.addr = E.addr) (c1 : ∀ b i, E.imm b i → E'.imm b i) (c2 : ∀ h' w', h' ≠ .slot (n + hs.length) off → ct (σ.slots ++ (hs ++ [w])) σ.objs h' = some w' → w'.own = true → ∀ b, E.tag b = .home h' → E'.tag b = .home h') (c2' : ∀ h' w', h' ≠ .slot (n + hs.length) off → ct (σ.slots ++ (hs ++ [w])) σ.objs h' = some w' → w'.own = true → ∀ b m, E.tag b = .tail h' m → E'.tag b = .tail h' m)
    (c0 : ∀ b o, E.tag b = .obj o → E'.tag b = .obj o) (cf : ∀ b, E.tag b = .other → E'.tag b = .other)
    (hrel : ∀ y, (vleaves x)[off]? = some y → RelV E (σ.slots ++ (hs ++ [w])) σ.objs (ts ++ (xs ++ [x])) H (.slot (n + hs.length) off) u y → ∀ slots', RelV E' slots' σ.objs (ts ++ (xs ++ [x])) H (.slot (n + hs.length) off) u' y) :
    CoreS n E' σ (hs ++ [w.withLeaves (w.leaves.set off u')]) ts (xs ++ [x]) H := by
  have hl := hC.hl
  have hN : σ.slots ++ (hs ++ [w]) = (σ.slots ++ hs) ++ [w] := by rw [List.append_assoc]
  have eg : (σ.slots ++ (hs ++ [w])).getD (n + hs.length) (.gone 0) = w := by
    apply getD_of_getElem?
    rw [hN, List.getElem?_append_right (by simp [hC.sl])]
    simp [hC.sl]
  have ex : (ts ++ (xs ++ [x]))[n + hs.length]? = some x := by
    have hl' : hs.length = xs.length := by simpa using hl
    rw [← List.append_assoc, List.getElem?_append_right (by simp [hC.tl, hl'])]
    simp [hC.tl, hl']
  have hct : ct (σ.slots ++ (hs ++ [w])) σ.objs (.slot (n + hs.length) off) = some u := by simp only [ct, eg]; exact hu
  have e : setSlots (σ.slots ++ (hs ++ [w])) (.slot (n + hs.length) off) u' = σ.slots ++ (hs ++ [w.withLeaves (w.leaves.set off u')]) := by
    simp only [setSlots, eg]
    rw [hN, List.set_append_right _ _ (by simp [hC.sl])]
    simp [hC.sl]
  have := hC.core.turn (E' := E') (u' := u') hct hg ⟨hin.1, hin.2, fun o off h => by cases h⟩ (fun h => absurd (h _ _ rfl) (by omega)) ca c1 c2 c2' c0 cf
    (fun y hy hv => hrel y (by simp only [hd, ex, Option.bind_some] at hy; exact hy) hv _)
  rw [e] at this
  exact ⟨hC.sl, hC.tl, this⟩

/-! ### freezing, letting go -/
/-- The block's end is the home's; what lies ahead of m is frozen. -/
def Env.tailAt (E : Env) (b m : Nat) (h : Home) : Env := { E with tag := fun b' => if b' = b then .tail h m else E.tag b' }
theorem CoreS.freeze (hC : CoreS n E σ hs ts xs H) {h : Home} {g sz : Nat} {es : List V} (hu : ct σ.slots σ.objs h = some (.xsl g sz es)) :
    ∃ E', CoreS n E' (σ.turn h (.fsl g sz es)) hs ts xs H ∧ Grow base E H E' H ∧ E'.addr = E.addr := by
  obtain ⟨h1, h2⟩ := ct_real' (n := n) (hs := hs) hC.sl hu (fun g => by simp)
  obtain ⟨y, hy, hv⟩ := hC.core.at_ h1 (fun g => by simp)
  obtain ⟨a, cap, e1, e2, e3, e4, e5, e6⟩ := hv
  by_cases hc : cap = 0
  · refine ⟨E, hC.turnHome hu (fun g => by simp) ⟨rfl, rfl, fun _ _ _ => rfl⟩ ⟨Nat.le_refl _, .inl rfl⟩ rfl (fun _ _ h => h) (fun _ _ _ _ _ _ h => h) (fun _ _ _ _ _ _ _ h => h) (fun _ _ h => h) (fun _ h => h) ?_, Grow.refl _ _ _, rfl⟩
    intro y' hy' _
    rw [hy] at hy'; cases hy'
    exact ⟨a, cap, e1, e2, e3, e4, fun h => absurd hc h, e6⟩
  · obtain ⟨ad, arr, T, f, f1, f2, f3, f4, f5⟩ := e5 hc
    subst f1
    have hne : ∀ b, E.tag b ≠ .home h → b ≠ ad.block := fun b hb e => hb (e ▸ f2)
    have c1 : ∀ b i, E.imm b i → (E.tailAt ad.block (ad.off + es.length * sz) h).imm b i := by
      intro b i hi
      by_cases hb : b = ad.block
      · subst hb; simp [Env.imm, f2] at hi
      · simp only [Env.imm, Env.tailAt, if_neg hb] at hi ⊢; exact hi
    have ct' : ∀ b, b ≠ ad.block → (E.tailAt ad.block (ad.off + es.length * sz) h).tag b = E.tag b := fun b hb => by simp [Env.tailAt, hb]
    refine ⟨E.tailAt ad.block (ad.off + es.length * sz) h, hC.turnHome hu (fun g => by simp) ⟨rfl, rfl, fun _ _ _ => rfl⟩ ⟨Nat.le_refl _, .inl rfl⟩ rfl c1 ?_ ?_ ?_ ?_ ?_, ?_, rfl⟩
    · intro h' w hh _ _ b hb
      rw [ct' b (hne b (by rw [hb]; simp [hh]))]; exact hb
    · intro h' w hh _ _ b m hb
      rw [ct' b (hne b (by rw [hb]; simp))]; exact hb
    · intro b o hb
      rw [ct' b (hne b (by rw [hb]; simp))]; exact hb
    · intro b hb
      rw [ct' b (hne b (by rw [hb]; simp))]; exact hb
    · intro y' hy' _
      rw [hy] at hy'; cases hy'
      refine ⟨some ad, cap, e1, e2, e3, e4, fun _ => ⟨ad, arr, T, f, rfl, by simp [Env.tailAt], f3, f4, f5⟩, ?_⟩
      exact e6.mono (fun b i h => ⟨c1 b i h, rfl⟩) (fun _ _ => rfl)
    · refine ⟨Nat.le_refl _, fun b i h => ⟨c1 b i h, rfl⟩, fun b _ hb => ⟨?_, rfl⟩, fun b hb => ⟨?_, rfl⟩, fun b m hb => ⟨?_, rfl⟩, fun _ _ => rfl⟩
      · rw [ct' b (hne b (by rw [hb]; simp))]; exact hb
      · rw [ct' b (hne b (by rw [hb]; simp))]; exact hb
      · rw [ct' b (hne b (by rw [hb]; simp))]; exact hb
/-- What a home owns is let go of. -/
theorem CoreS.letGo (hC : CoreS n E σ hs ts xs H) {h : Home} {u : V} (hu : ct σ.slots σ.objs h = some u) (ho : u.own = true) : CoreS n E (σ.turn h (.gone u.nextg)) hs ts xs H := by
  refine hC.turnHome hu (fun g e => by subst e; simp [V.own] at ho) ⟨rfl, rfl, fun _ _ _ => rfl⟩ ⟨Nat.le_refl _, .inr fun g sz h => by cases h⟩ rfl (fun _ _ h => h) (fun _ _ _ _ _ _ h => h) (fun _ _ _ _ _ _ _ h => h) (fun _ _ h => h) (fun _ h => h) (fun _ _ _ => trivial)

/-! ### a view -/
/-- The elements of a slice's value, as the model's value has them. -/
structure View (imm : Nat → Nat → Prop) (H : Array Go.Obj) (sz : Nat) (es : List V) (x : Value) (a : Option Addr) (cap : Nat) : Prop where
  eq : x = .slice a es.length cap
  le : es.length ≤ cap
  nil : a = none → cap = 0
  spot : ∀ ad, a = some ad → cap ≠ 0 → ad.spot = none
  elems : Elems imm H a sz es
theorem View.of_nil {imm : Nat → Nat → Prop} (sz : Nat) : View imm H sz [] (.slice none 0 0) none 0 := ⟨rfl, Nat.le_refl _, fun _ => rfl, fun _ h => (by cases h), Elems.nil _ _ _ _⟩
theorem View.of_isl {imm : Nat → Nat → Prop} {g sz : Nat} {es : List V} {x : Value} (h : RelI imm H (.isl g sz es) x) : ∃ a cap, View imm H sz es x a cap ∧
    ∀ (ad : Addr) (i : Nat) (e : V) (j : Nat), a = some ad → es[i]? = some e → j < e.cells.length → imm ad.block (ad.off + (i * sz + j)) := by
  obtain ⟨a, cap, h1, h2, h3, h4, h5, h6⟩ := isl_elems h
  exact ⟨a, cap, ⟨h1, h2, h3, h4, h5⟩, h6⟩
/-- A slice that is lent, by what its home holds. -/
theorem View.of_srf {slots : List V} {objs : List (Option Obj)} {vals : List Value} {h0 h : Home} {g sz off len : Nat} {es : List V} {x y : Value} {a : Option Addr} {cap : Nat}
    (hx : RelV E slots objs vals H h0 (.srf h g sz off len) x) (hvl : valid slots objs h g sz) (hy : hd E vals H h = some y) (hw : View E.imm H sz es y a cap) (hle : off + len ≤ es.length) :
    ∃ a' cap', View E.imm H sz ((es.drop off).take len) x a' cap' ∧ (cap' ≠ 0 → ∃ ad, a = some ad ∧ a' = some ⟨ad.block, ad.off + off * sz, none⟩ ∧ off + cap' ≤ cap) := by
  obtain ⟨a', c', e2, e3, e4, e5, hx⟩ := hx
  obtain ⟨a0, l, c, e1, e6⟩ := hx hvl
  rw [hy] at e1; cases e1
  have hw1 := hw.eq
  cases hw1
  have hlen : ((es.drop off).take len).length = len := by rw [List.length_take, List.length_drop]; omega
  refine ⟨a', c', ⟨by rw [hlen]; exact e2, by rw [hlen]; exact e3, e4, e5, ?_⟩, e6⟩
  by_cases hc : c' = 0
  · have : (es.drop off).take len = [] := by
      apply List.eq_nil_of_length_eq_zero; omega
    rw [this]; exact Elems.nil _ _ _ _
  · obtain ⟨ad, f1, f2, f3⟩ := e6 hc
    subst f1 f2
    exact hw.elems.sub
/-- What a home's slice is in the model. -/
theorem Core.homeView {slots : List V} {objs : List (Option Obj)} {vals : List Value} (hC : Core n E slots objs vals H) {h : Home} {u : V} {g sz : Nat} {es : List V} (hu : ct slots objs h = some u) (hk : u = .xsl g sz es ∨ u = .isl g sz es ∨ u = .fsl g sz es) :
    ∃ y a cap, hd E vals H h = some y ∧ View E.imm H sz es y a cap ∧
      (u = .xsl g sz es → cap ≠ 0 → ∃ ad arr T f, a = some ad ∧ E.tag ad.block = .home h ∧ H[ad.block]? = some (.cells arr T f) ∧ ad.off + cap * sz ≤ arr.size ∧ open_ f arr.size) ∧
      (u = .fsl g sz es → cap ≠ 0 → ∃ ad arr T f, a = some ad ∧ E.tag ad.block = .tail h (ad.off + es.length * sz) ∧ H[ad.block]? = some (.cells arr T f) ∧ ad.off + cap * sz ≤ arr.size ∧ open_ f arr.size) ∧
      (u ≠ .xsl g sz es → ∀ (ad : Addr) (i : Nat) (e : V) (j : Nat), a = some ad → es[i]? = some e → j < e.cells.length → E.imm ad.block (ad.off + (i * sz + j))) := by
  obtain ⟨y, hy, hv⟩ := hC.at_ hu (by rintro g' rfl; rcases hk with h | h | h <;> cases h)
  rcases hk with rfl | rfl | rfl
  · obtain ⟨a, cap, e1, e2, e3, e4, e5, e6⟩ := hv
    exact ⟨y, a, cap, hy, ⟨e1, e2, e3, e4, e6⟩, fun _ => e5, fun h => (by cases h), fun h => absurd rfl h⟩
  · obtain ⟨a, cap, hw, hi⟩ := View.of_isl hv
    exact ⟨y, a, cap, hy, hw, fun h => (by cases h), fun h => (by cases h), fun _ => hi⟩
  · obtain ⟨a, cap, e1, e2, e3, e4, e5, e6⟩ := hv
    refine ⟨y, a, cap, hy, ⟨e1, e2, e3, e4, e6⟩, fun h => (by cases h), fun _ => e5, fun _ ad i e j ha hi hj => ?_⟩
    have hlt := lt_of_getElem? hi
    obtain ⟨ad', arr, T, f, f1, f2, _⟩ := e5 (by omega)
    rw [ha] at f1; cases f1
    simp only [Env.imm, f2]
    rw [(e6.1 e (List.mem_of_getElem? hi)).1] at hj
    have : i * sz + j < es.length * sz := by
      calc i * sz + j < i * sz + sz := by omega
        _ = (i + 1) * sz := by rw [Nat.add_mul, Nat.one_mul]
        _ ≤ es.length * sz := Nat.mul_le_mul_right _ hlt
    omega
theorem mem_sub {es : List V} {off len i : Nat} {e : V} (h : ((es.drop off).take len)[i]? = some e) : es[off + i]? = some e ∧ i < len := by
  rw [List.getElem?_take] at h
  split at h
  · rename_i hi; rw [List.getElem?_drop] at h; exact ⟨h, hi⟩
  · cases h
/-- A piece of what is frozen is told for good. -/
theorem isl_of_view {imm : Nat → Nat → Prop} {sz g : Nat} {es : List V} {x : Value} {a : Option Addr} {cap : Nat} (hw : View imm H sz es x a cap)
    (hi : ∀ (ad : Addr) (i : Nat) (e : V) (j : Nat), a = some ad → es[i]? = some e → j < e.cells.length → imm ad.block (ad.off + (i * sz + j))) : RelI imm H (.isl g sz es) x := by
  rw [hw.eq]
  refine isl_of hw.elems hw.le hw.nil hw.spot fun ad k ha hk => ?_
  by_cases hz : sz = 0
  · subst hz; simp at hk
  · have h1 : k / sz < es.length := Nat.div_lt_of_lt_mul (by rw [Nat.mul_comm]; exact hk)
    obtain ⟨e, he⟩ := exists_getElem? h1
    have h2 := hi ad (k / sz) e (k % sz) ha he (by rw [(hw.elems.1 e (List.mem_of_getElem? he)).1]; exact Nat.mod_lt _ (by omega))
    rw [Nat.mul_comm, Nat.div_add_mod] at h2; exact h2
theorem isl_of_sub {imm : Nat → Nat → Prop} {sz g off len : Nat} {es : List V} {x : Value} {a a' : Option Addr} {cap cap' : Nat} (hw : View imm H sz ((es.drop off).take len) x a' cap')
    (ha : cap' ≠ 0 → ∃ ad, a = some ad ∧ a' = some ⟨ad.block, ad.off + off * sz, none⟩ ∧ off + cap' ≤ cap)
    (hi : ∀ (ad : Addr) (i : Nat) (e : V) (j : Nat), a = some ad → es[i]? = some e → j < e.cells.length → imm ad.block (ad.off + (i * sz + j))) : RelI imm H (.isl g sz ((es.drop off).take len)) x := by
  refine isl_of_view hw fun ad i e j h1 h2 h3 => ?_
  obtain ⟨h4, h5⟩ := mem_sub h2
  have hc : cap' ≠ 0 := by have := lt_of_getElem? h2; have := hw.le; omega
  obtain ⟨ad0, e1, e2, _⟩ := ha hc
  rw [h1] at e2; cases e2
  have := hi ad0 _ e j e1 h4 h3
  rw [show ad0.off + off * sz + (i * sz + j) = ad0.off + ((off + i) * sz + j) by rw [Nat.add_mul]; omega]
  exact this
end
end Go.Vq
/- Settling what is lent; values in hand (no law of Go is stated here). -/
namespace Go.Vq
section
variable {n base : Nat} {E E' : Env} {σ σ' : St} {hs : List V} {ts xs : List Value} {H H' : Array Go.Obj}

def Env.setTag (E : Env) (b : Nat) (t : Tag) : Env := { E with tag := fun b' => if b' = b then t else E.tag b' }
theorem setTag_same (E : Env) (b : Nat) (t : Tag) : (E.setTag b t).tag b = t := by simp [Env.setTag]
theorem setTag_ne (E : Env) {b b' : Nat} (t : Tag) (h : b' ≠ b) : (E.setTag b t).tag b' = E.tag b' := by simp [Env.setTag, h]

theorem hand_rel {w : V} {x : Value} (hC : CoreS n E σ (hs ++ [w]) ts (xs ++ [x]) H) : SlotRel E (σ.slots ++ (hs ++ [w])) σ.objs (ts ++ (xs ++ [x])) H (n + hs.length) w x := by
  have hl : hs.length = xs.length := by simpa using hC.hl
  refine hC.core.slot _ w x ?_ ?_
  · rw [← List.append_assoc, List.getElem?_append_right (by simp [hC.sl])]; simp [hC.sl]
  · rw [← List.append_assoc, List.getElem?_append_right (by simp [hC.tl, hl])]; simp [hC.tl, hl]
theorem hand_refs {w : V} {x : Value} (hC : CoreS n E σ (hs ++ [w]) ts (xs ++ [x]) H) : ∀ r ∈ w.refs, (∀ t i, r.1 = .slot t i → t < n) ∧ ∃ u, ct (σ.slots ++ (hs ++ [w])) σ.objs r.1 = some u ∧ r.2 < u.nextg := by
  refine hC.core.refs (n + hs.length) w ?_
  rw [← List.append_assoc, List.getElem?_append_right (by simp [hC.sl])]; simp [hC.sl]
theorem set_same {α : Type} {l : List α} {i : Nat} {u : α} (h : l[i]? = some u) : l.set i u = l := by
  apply List.ext_getElem?
  intro j
  by_cases hj : i = j
  · subst hj; rw [List.getElem?_set_self (lt_of_getElem? h), h]
  · rw [List.getElem?_set_ne hj]

/-- May it be kept for good? -/
def V.settled : V → Bool
  | .srf .. | .csl .. => false
  | _ => true

theorem ct_turn {h : Home} {u v : V} (hu : ct σ.slots σ.objs h = some v) (hf : ∀ s i, h = .slot s i → (σ.slot s).formed ∧ (∀ w ∈ (σ.slot s).leaves, w.leaf = true) ∧ s < σ.slots.length) (hl : u.leaf = true) : ct (σ.turn h u).slots (σ.turn h u).objs h = some u := by
  cases h with
  | slot s i =>
    obtain ⟨h1, h2, h3⟩ := hf s i rfl
    have hi := lt_of_getElem? (show (σ.slot s).leaves[i]? = some v from hu)
    show ((σ.slots.set s ((σ.slot s).withLeaves ((σ.slot s).leaves.set i u))).getD s (.gone 0)).leaves[i]? = some u
    rw [getD_of_getElem? (List.getElem?_set_self h3), withLeaves_leaves h1 (by simp) (fun w hw => by
      rcases List.mem_or_eq_of_mem_set hw with h | h
      · exact h2 w h
      · exact h ▸ hl), List.getElem?_set_self hi]
  | obj o i =>
    simp only [ct] at hu
    split at hu
    · rename_i cs ho
      have h1 : σ.objs.getD o none = some (.cells cs) := getD_of_getElem? ho
      simp only [ct, St.turn, setObjs', h1]
      rw [List.getElem?_set_self (lt_of_getElem? ho)]
      simp only [List.getElem?_set_self (lt_of_getElem? hu)]
    · cases hu
theorem CoreS.formedAt (hC : CoreS n E σ hs ts xs H) {h : Home} {v : V} (hu : ct σ.slots σ.objs h = some v) (hg : ∀ g, v ≠ .gone g) :
    ∀ s i, h = .slot s i → (σ.slot s).formed ∧ (∀ w ∈ (σ.slot s).leaves, w.leaf = true) ∧ s < σ.slots.length := by
  rintro s i rfl
  have hs : s < n := by
    rcases Nat.lt_or_ge s n with h1 | h1
    · exact h1
    · exact absurd (ct_slot_big (hC.sl ▸ h1) hu) (hg 0)
  have hS := hC.slotRel hs
  exact ⟨hS.formed, hS.leafs, hC.sl ▸ hs⟩

/-- One leaf of what is in hand is settled. -/
theorem settle1_sound {w : V} {x : Value} {h : Option Home} {i : Nat} {u : V} {k : V → Prog} (hC : CoreS n E σ (hs ++ [w]) ts (xs ++ [x]) H) (hu : w.leaves[i]? = some u) (hr : (settle1 h u k).run σ = some σ') :
    ∃ E1 σ1 u', CoreS n E1 σ1 (hs ++ [w.withLeaves (w.leaves.set i u')]) ts (xs ++ [x]) H ∧ Grow base E H E1 H ∧ E1.addr = E.addr ∧ (k u').run σ1 = some σ' ∧ u'.leaf = true ∧ u'.settled = true ∧ (u.settled = true → u' = u) := by
  have hS := hand_rel hC
  have hul := hS.leafs u (List.mem_of_getElem? hu)
  have hsame : w.withLeaves (w.leaves.set i u) = w := by rw [set_same hu, withLeaves_same hS.formed]
  by_cases hset : u.settled = true
  · have e : settle1 h u k = k u := by cases u <;> first | rfl | simp [V.settled] at hset
    rw [e] at hr
    exact ⟨E, σ, u, by rw [hsame]; exact hC, Grow.refl _ _ _, rfl, hr, hul, hset, fun _ => rfl⟩
  · have hwl := hS.1
    have hwg : ∀ g, w ≠ .gone g := by rintro g rfl; cases i with | zero => simp at hu; subst hu; exact hset rfl | succ i => simp at hu
    obtain ⟨y, hy⟩ := exists_getElem? (l := vleaves x) (i := i) (by rw [← shape_len hS.1 hwg]; exact lt_of_getElem? hu)
    have hv := hS.2 i u y hu hy
    cases u <;> simp only [V.settled, Bool.true_eq_false, Bool.false_eq_true, not_true_eq_false, not_false_eq_true] at hset
    case csl sz es =>
      refine ⟨E, σ, .isl 0 sz es, ?_, Grow.refl _ _ _, rfl, hr, rfl, rfl, fun h => by cases h⟩
      exact hC.turnHand hu (fun g => by simp) ⟨rfl, rfl⟩ rfl (fun _ _ h => h) (fun _ _ _ _ _ _ h => h) (fun _ _ _ _ _ _ _ h => h) (fun _ _ h => h) (fun _ h => h) (fun y' _ hy' _ => hy'.1)
    case srf h' g sz off len =>
      simp only [settle1] at hr
      replace hr := gHome_run hr
      obtain ⟨c, hc, hr⟩ := hr
      have key : ∀ es, (c = .xsl g sz es ∨ c = .isl g sz es ∨ c = .fsl g sz es) → off + len ≤ es.length → ∀ (E1 : Env) (σ1 : St), CoreS n E1 σ1 (hs ++ [w]) ts (xs ++ [x]) H →
          ct σ1.slots σ1.objs h' = some c ∨ ct σ1.slots σ1.objs h' = some (.fsl g sz es) → (ct σ1.slots σ1.objs h' ≠ some (.xsl g sz es)) →
          CoreS n E1 σ1 (hs ++ [w.withLeaves (w.leaves.set i (.isl 0 sz ((es.drop off).take len)))]) ts (xs ++ [x]) H := by
        intro es hk hle E1 σ1 hC1 hc1 hc2
        have hS1 := hand_rel hC1
        have hv1 := hS1.2 i _ y hu hy
        have hk1 : ∃ c1, ct σ1.slots σ1.objs h' = some c1 ∧ (c1 = .xsl g sz es ∨ c1 = .isl g sz es ∨ c1 = .fsl g sz es) ∧ c1 ≠ .xsl g sz es := by
          rcases hc1 with h | h
          · exact ⟨c, h, hk, fun e => hc2 (e ▸ h)⟩
          · exact ⟨_, h, .inr (.inr rfl), by simp⟩
        obtain ⟨c1, d1, d2, d3⟩ := hk1
        obtain ⟨d4, d5⟩ := ct_real' (n := n) (hs := hs ++ [w]) hC1.sl d1 (by rintro g' rfl; rcases d2 with h | h | h <;> cases h)
        obtain ⟨y', a, cap, f1, f2, f3, f4, f5⟩ := hC1.core.homeView d4 d2
        have hvl : valid (σ1.slots ++ (hs ++ [w])) σ1.objs h' g sz := ⟨c1, d4, by rcases d2 with rfl | rfl | rfl <;> rfl⟩
        obtain ⟨a', cap', g1, g2⟩ := View.of_srf hv1 hvl f1 f2 hle
        refine hC1.turnHand hu (fun g => by simp) ⟨rfl, rfl⟩ rfl (fun _ _ h => h) (fun _ _ _ _ _ _ h => h) (fun _ _ _ _ _ _ _ h => h) (fun _ _ h => h) (fun _ h => h) (fun y2 hy2 _ _ => ?_)
        rw [hy] at hy2; cases hy2
        exact isl_of_sub g1 g2 (f5 d3)
      have hcg : ∀ es, (c = .xsl g sz es ∨ c = .isl g sz es ∨ c = .fsl g sz es) → ∀ g', c ≠ .gone g' := by rintro es hk g' rfl; rcases hk with h | h | h <;> cases h
      split at hr
      · -- owned
        rename_i g' sz' es
        rw [Prog.run_ite] at hr
        split at hr
        · rename_i hcond; obtain ⟨rfl, rfl, hle⟩ := hcond
          rw [Prog.run_ite] at hr
          split at hr
          · -- back to where it came from
            obtain ⟨_, hr⟩ := sHome_run hr
            have hk : V.xsl g' sz' es = .xsl g' sz' es ∨ V.xsl g' sz' es = .isl g' sz' es ∨ V.xsl g' sz' es = .fsl g' sz' es := .inl rfl
            obtain ⟨d4, d5⟩ := ct_real' (n := n) (hs := hs ++ [w]) hC.sl hc (by simp)
            obtain ⟨y', a, cap, f1, f2, f3, f4, f5⟩ := hC.core.homeView d4 hk
            have hvl : valid (σ.slots ++ (hs ++ [w])) σ.objs h' g' sz' := ⟨_, d4, rfl⟩
            obtain ⟨a', cap', g1, g2⟩ := View.of_srf hv hvl f1 f2 hle
            have hC1 : CoreS n E (σ.turn h' (.gone (g' + 1))) (hs ++ [w]) ts (xs ++ [x]) H := hC.letGo hc rfl
            have hct1 := ct_turn (u := .gone (g' + 1)) hc (hC.formedAt hc (by simp)) rfl
            obtain ⟨d6, d7⟩ : ct ((σ.turn h' (.gone (g' + 1))).slots ++ (hs ++ [w])) (σ.turn h' (.gone (g' + 1))).objs h' = some (.gone (g' + 1)) ∧ True := by
              rw [ct_real (n := n) hC1.sl d5]; exact ⟨hct1, trivial⟩
            by_cases hc0 : cap' = 0
            · refine ⟨E, σ.turn h' (.gone (g' + 1)), .xsl 0 sz' ((es.drop off).take len), ?_, Grow.refl _ _ _, rfl, hr, rfl, rfl, fun h => by cases h⟩
              refine hC1.turnHand hu (fun g => by simp) ⟨rfl, rfl⟩ rfl (fun _ _ h => h) (fun _ _ _ _ _ _ h => h) (fun _ _ _ _ _ _ _ h => h) (fun _ _ h => h) (fun _ h => h) (fun y2 hy2 _ _ => ?_)
              rw [hy] at hy2; cases hy2
              exact ⟨a', cap', g1.eq, g1.le, g1.nil, g1.spot, fun h => absurd hc0 h, g1.elems⟩
            · obtain ⟨ad, i1, i2, i3⟩ := g2 hc0
              obtain ⟨ad', arr, T, f, j1, j2, j3, j4, j5⟩ := f3 rfl (by omega)
              rw [i1] at j1; cases j1
              have hne : ∀ b, E.tag b ≠ .home h' → b ≠ ad.block := fun b hb e => hb (e ▸ j2)
              refine ⟨E.setTag ad.block (.home (.slot (n + hs.length) i)), σ.turn h' (.gone (g' + 1)), .xsl 0 sz' ((es.drop off).take len), ?_, ?_, rfl, hr, rfl, rfl, fun h => by cases h⟩
              · refine hC1.turnHand hu (fun g => by simp) ⟨rfl, rfl⟩ rfl ?_ ?_ ?_ ?_ ?_ (fun y2 hy2 _ slots' => ?_)
                · intro b i hi
                  by_cases hb : b = ad.block
                  · subst hb; simp [Env.imm, j2] at hi
                  · simp only [Env.imm, setTag_ne E _ hb] at hi ⊢; exact hi
                · intro h2 w' hh hw ho b hb
                  rw [setTag_ne E _ (hne b (by rw [hb]; rintro e; cases e; rw [d6] at hw; cases hw; cases ho))]; exact hb
                · intro h2 w' hh hw ho b m hb
                  rw [setTag_ne E _ (hne b (by rw [hb]; simp))]; exact hb
                · intro b o hb
                  rw [setTag_ne E _ (hne b (by rw [hb]; simp))]; exact hb
                · intro b hb
                  rw [setTag_ne E _ (hne b (by rw [hb]; simp))]; exact hb
                · rw [hy] at hy2; cases hy2
                  refine ⟨a', cap', g1.eq, g1.le, g1.nil, g1.spot, fun _ => ⟨_, arr, T, f, i2, setTag_same _ _ _, j3, ?_, j5⟩, ?_⟩
                  · calc ad.off + off * sz' + cap' * sz' = ad.off + (off + cap') * sz' := by rw [Nat.add_mul]; omega
                      _ ≤ ad.off + cap * sz' := Nat.add_le_add_left (Nat.mul_le_mul_right _ i3) _
                      _ ≤ arr.size := j4
                  · refine g1.elems.mono (fun b i hi => ⟨?_, rfl⟩) (fun _ _ => rfl)
                    by_cases hb : b = ad.block
                    · subst hb; simp [Env.imm, j2] at hi
                    · simp only [Env.imm, setTag_ne E _ hb] at hi ⊢; exact hi
              · refine ⟨Nat.le_refl _, fun b i hi => ⟨?_, rfl⟩, fun b _ hb => ⟨?_, rfl⟩, fun b hb => ⟨?_, rfl⟩, fun b m hb => ⟨?_, rfl⟩, fun _ _ => rfl⟩
                · by_cases hb : b = ad.block
                  · subst hb; simp [Env.imm, j2] at hi
                  · simp only [Env.imm, setTag_ne E _ hb] at hi ⊢; exact hi
                · rw [setTag_ne E _ (hne b (by rw [hb]; simp))]; exact hb
                · rw [setTag_ne E _ (hne b (by rw [hb]; simp))]; exact hb
                · rw [setTag_ne E _ (hne b (by rw [hb]; simp))]; exact hb
          · -- frozen
            obtain ⟨_, hr⟩ := sHome_run hr
            obtain ⟨E1, hC1, hG, hA⟩ := hC.freeze (base := base) hc
            have hct1 := ct_turn (u := .fsl g' sz' es) hc (hC.formedAt hc (by simp)) rfl
            exact ⟨E1, _, _, key es (.inl rfl) hle E1 _ hC1 (.inr hct1) (by rw [hct1]; simp), hG, hA, hr, rfl, rfl, fun h => by cases h⟩
        · cases hr
      · -- frozen already
        rename_i g' sz' es
        rw [Prog.run_ite] at hr
        split at hr
        · rename_i hcond; obtain ⟨rfl, rfl, hle⟩ := hcond
          rw [Prog.run_ite] at hr
          split at hr
          · obtain ⟨_, hr⟩ := sHome_run hr
            have hk : V.fsl g' sz' es = .xsl g' sz' es ∨ V.fsl g' sz' es = .isl g' sz' es ∨ V.fsl g' sz' es = .fsl g' sz' es := .inr (.inr rfl)
            obtain ⟨d4, d5⟩ := ct_real' (n := n) (hs := hs ++ [w]) hC.sl hc (by simp)
            obtain ⟨y', a, cap, f1, f2, f3, f4, f5⟩ := hC.core.homeView d4 hk
            have hvl : valid (σ.slots ++ (hs ++ [w])) σ.objs h' g' sz' := ⟨_, d4, rfl⟩
            obtain ⟨a', cap', g1, g2⟩ := View.of_srf hv hvl f1 f2 hle
            have hC1 : CoreS n E (σ.turn h' (.gone (g' + 1))) (hs ++ [w]) ts (xs ++ [x]) H := hC.letGo hc rfl
            have hct1 := ct_turn (u := .gone (g' + 1)) hc (hC.formedAt hc (by simp)) rfl
            obtain ⟨d6, d7⟩ : ct ((σ.turn h' (.gone (g' + 1))).slots ++ (hs ++ [w])) (σ.turn h' (.gone (g' + 1))).objs h' = some (.gone (g' + 1)) ∧ True := by
              rw [ct_real (n := n) hC1.sl d5]; exact ⟨hct1, trivial⟩
            split at hr
            · rename_i hend
              have hsl : ((es.drop off).take len).length = len := by rw [List.length_take, List.length_drop]; omega
              by_cases hc0 : cap' = 0
              · refine ⟨E, σ.turn h' (.gone (g' + 1)), .fsl 0 sz' ((es.drop off).take len), ?_, Grow.refl _ _ _, rfl, hr, rfl, rfl, fun h => by cases h⟩
                refine hC1.turnHand hu (fun g => by simp) ⟨rfl, rfl⟩ rfl (fun _ _ h => h) (fun _ _ _ _ _ _ h => h) (fun _ _ _ _ _ _ _ h => h) (fun _ _ h => h) (fun _ h => h) (fun y2 hy2 _ _ => ?_)
                rw [hy] at hy2; cases hy2
                exact ⟨a', cap', g1.eq, g1.le, g1.nil, g1.spot, fun h => absurd hc0 h, g1.elems⟩
              · obtain ⟨ad, i1, i2, i3⟩ := g2 hc0
                obtain ⟨ad', arr, T, f, j1, j2, j3, j4, j5⟩ := f4 rfl (by omega)
                rw [i1] at j1; cases j1
                have hne : ∀ b, E.tag b ≠ .tail h' (ad.off + es.length * sz') → b ≠ ad.block := fun b hb e => hb (e ▸ j2)
                have himm : ∀ b i', E.imm b i' → (E.setTag ad.block (.tail (.slot (n + hs.length) i) (ad.off + es.length * sz'))).imm b i' := by
                  intro b i' hi
                  by_cases hb : b = ad.block
                  · subst hb; simp only [Env.imm, j2, setTag_same] at hi ⊢; exact hi
                  · simp only [Env.imm, setTag_ne E _ hb] at hi ⊢; exact hi
                refine ⟨E.setTag ad.block (.tail (.slot (n + hs.length) i) (ad.off + es.length * sz')), σ.turn h' (.gone (g' + 1)), .fsl 0 sz' ((es.drop off).take len), ?_, ?_, rfl, hr, rfl, rfl, fun h => by cases h⟩
                · refine hC1.turnHand hu (fun g => by simp) ⟨rfl, rfl⟩ rfl himm ?_ ?_ ?_ ?_ (fun y2 hy2 _ slots' => ?_)
                  · intro h2 w' hh hw ho b hb
                    rw [setTag_ne E _ (hne b (by rw [hb]; simp))]; exact hb
                  · intro h2 w' hh hw ho b m hb
                    rw [setTag_ne E _ (hne b (by rw [hb]; rintro e; cases e; rw [d6] at hw; cases hw; cases ho))]; exact hb
                  · intro b o hb
                    rw [setTag_ne E _ (hne b (by rw [hb]; simp))]; exact hb
                  · intro b hb
                    rw [setTag_ne E _ (hne b (by rw [hb]; simp))]; exact hb
                  · rw [hy] at hy2; cases hy2
                    refine ⟨a', cap', g1.eq, g1.le, g1.nil, g1.spot, fun _ => ⟨_, arr, T, f, i2, ?_, j3, ?_, j5⟩, ?_⟩
                    · rw [setTag_same, hsl]
                      show Tag.tail _ (ad.off + es.length * sz') = Tag.tail _ (ad.off + off * sz' + len * sz')
                      rw [← hend, Nat.add_mul, Nat.add_assoc]
                    · calc ad.off + off * sz' + cap' * sz' = ad.off + (off + cap') * sz' := by rw [Nat.add_mul]; omega
                        _ ≤ ad.off + cap * sz' := Nat.add_le_add_left (Nat.mul_le_mul_right _ i3) _
                        _ ≤ arr.size := j4
                    · exact g1.elems.mono (fun b i hi => ⟨himm b i hi, rfl⟩) (fun _ _ => rfl)
                · refine ⟨Nat.le_refl _, fun b i hi => ⟨himm b i hi, rfl⟩, fun b _ hb => ⟨?_, rfl⟩, fun b hb => ⟨?_, rfl⟩, fun b m hb => ⟨?_, rfl⟩, fun _ _ => rfl⟩
                  · rw [setTag_ne E _ (hne b (by rw [hb]; simp))]; exact hb
                  · rw [setTag_ne E _ (hne b (by rw [hb]; simp))]; exact hb
                  · rw [setTag_ne E _ (hne b (by rw [hb]; simp))]; exact hb
            · refine ⟨E, σ.turn h' (.gone (g' + 1)), .isl 0 sz' ((es.drop off).take len), ?_, Grow.refl _ _ _, rfl, hr, rfl, rfl, fun h => by cases h⟩
              refine hC1.turnHand hu (fun g => by simp) ⟨rfl, rfl⟩ rfl (fun _ _ h => h) (fun _ _ _ _ _ _ h => h) (fun _ _ _ _ _ _ _ h => h) (fun _ _ h => h) (fun _ h => h) (fun y2 hy2 _ _ => ?_)
              rw [hy] at hy2; cases hy2
              exact isl_of_sub g1 g2 (f5 (by simp))
          · exact ⟨E, σ, _, key es (.inr (.inr rfl)) hle E σ hC (.inl hc) (by rw [hc]; simp), Grow.refl _ _ _, rfl, hr, rfl, rfl, fun h => by cases h⟩
        · cases hr
      · rename_i g' sz' es
        rw [Prog.run_ite] at hr
        split at hr
        · rename_i hcond; obtain ⟨rfl, rfl, hle⟩ := hcond
          exact ⟨E, σ, _, key es (.inr (.inl rfl)) hle E σ hC (.inl hc) (by rw [hc]; simp), Grow.refl _ _ _, rfl, hr, rfl, rfl, fun h => by cases h⟩
        · cases hr
      · cases hr
end
end Go.Vq
/- Values taken in hand: moved, kept, told for good (no law of Go is stated here). -/
namespace Go.Vq
section
variable {n base : Nat} {E E' : Env} {σ σ' : St} {hs : List V} {ts xs : List Value} {H H' : Array Go.Obj}

/-- What a program of one leaf keeps true. -/
def Sound1 (n base : Nat) (f1 : Option Home → V → (V → Prog) → Prog) (Q : V → Prop) : Prop :=
  ∀ (E : Env) (σ σ' : St) (hs : List V) (ts xs : List Value) (H : Array Go.Obj) (w : V) (x : Value) (h : Option Home) (i : Nat) (u : V) (k : V → Prog),
    CoreS n E σ (hs ++ [w]) ts (xs ++ [x]) H → w.leaves[i]? = some u → (f1 h u k).run σ = some σ' →
    ∃ E1 σ1 u', CoreS n E1 σ1 (hs ++ [w.withLeaves (w.leaves.set i u')]) ts (xs ++ [x]) H ∧ Grow base E H E1 H ∧ E1.addr = E.addr ∧ (k u').run σ1 = some σ' ∧ u'.leaf = true ∧ Q u'

theorem settle1_Sound : Sound1 n base settle1 (fun u => u.settled = true) := by
  intro E σ σ' hs ts xs H w x h i u k hC hu hr
  obtain ⟨E1, σ1, u', h1, h2, h3, h4, h5, h6, _⟩ := settle1_sound (base := base) hC hu hr
  exact ⟨E1, σ1, u', h1, h2, h3, h4, h5, h6⟩
theorem keep1_Sound : Sound1 n base keep1 (fun u => True) := by
  intro E σ σ' hs ts xs H w x h i u k hC hu hr
  have hS := hand_rel hC
  have hsame : w.withLeaves (w.leaves.set i u) = w := by rw [set_same hu, withLeaves_same hS.formed]
  have hid : (k u).run σ = some σ' → ∃ E1 σ1 u', CoreS n E1 σ1 (hs ++ [w.withLeaves (w.leaves.set i u')]) ts (xs ++ [x]) H ∧ Grow base E H E1 H ∧ E1.addr = E.addr ∧ (k u').run σ1 = some σ' ∧ u'.leaf = true ∧ True :=
    fun hr => ⟨E, σ, u, by rw [hsame]; exact hC, Grow.refl _ _ _, rfl, hr, hS.leafs u (List.mem_of_getElem? hu), trivial⟩
  cases u <;> first
    | exact hid hr
    | (simp only [keep1] at hr
       rw [Prog.run_ite] at hr
       split at hr
       · obtain ⟨E1, σ1, u', h1, h2, h3, h4, h5, h6, _⟩ := settle1_sound (base := base) hC hu hr
         exact ⟨E1, σ1, u', h1, h2, h3, h4, h5, trivial⟩
       · exact hid hr)
theorem list_sound {f1 : Option Home → V → (V → Prog) → Prog} {Q : V → Prop} (h1 : Sound1 n base f1 Q) (f : (Nat → Option Home) → Nat → List V → (List V → Prog) → Prog)
    (hnil : ∀ mk j k, f mk j [] k = k []) (hcons : ∀ mk j v vs k, f mk j (v :: vs) k = f1 (mk j) v fun v' => f mk (j + 1) vs fun vs' => k (v' :: vs')) (mk : Nat → Option Home) :
    ∀ (rest done : List V) {E : Env} {σ : St} {w : V} {x : Value} {k : List V → Prog}, CoreS n E σ (hs ++ [w]) ts (xs ++ [x]) H → w.leaves = done ++ rest → (f mk done.length rest k).run σ = some σ' →
    ∃ E1 σ1 ls, CoreS n E1 σ1 (hs ++ [w.withLeaves (done ++ ls)]) ts (xs ++ [x]) H ∧ Grow base E H E1 H ∧ E1.addr = E.addr ∧ (k ls).run σ1 = some σ' ∧ ls.length = rest.length ∧ ∀ u ∈ ls, u.leaf = true ∧ Q u
  | [], done, E, σ, w, x, k, hC, hw, hr => by
    rw [hnil] at hr
    have hS := hand_rel hC
    refine ⟨E, σ, [], ?_, Grow.refl _ _ _, rfl, hr, rfl, fun u h => by cases h⟩
    rw [← hw, withLeaves_same hS.formed]; exact hC
  | v :: rest, done, E, σ, w, x, k, hC, hw, hr => by
    rw [hcons] at hr
    have hS := hand_rel hC
    have hv : w.leaves[done.length]? = some v := by rw [hw]; simp
    obtain ⟨E1, σ1, u', a1, a2, a3, a4, a5, a6⟩ := h1 _ _ _ _ _ _ _ _ _ _ _ _ _ hC hv hr
    have hset : w.leaves.set done.length u' = done ++ u' :: rest := by rw [hw]; simp
    have hlf : ∀ u ∈ w.leaves.set done.length u', u.leaf = true := by
      intro u hu
      rcases List.mem_or_eq_of_mem_set hu with h | h
      · exact hS.leafs u h
      · exact h ▸ a5
    have hl1 : (w.withLeaves (w.leaves.set done.length u')).leaves = (done ++ [u']) ++ rest := by
      rw [withLeaves_leaves hS.formed (by simp) hlf, hset]; simp
    obtain ⟨E2, σ2, ls, b1, b2, b3, b4, b5, b6⟩ := list_sound h1 f hnil hcons mk rest (done ++ [u']) a1 hl1 (by simpa using a4)
    refine ⟨E2, σ2, u' :: ls, ?_, a2.trans b2, b3.trans a3, b4, by simp [b5], fun u hu => ?_⟩
    · rw [withLeaves_twice hS.formed (by simp) hlf (by
        have h1 := congrArg List.length hw
        simp at h1
        simp [b5, h1])] at b1
      rw [show done ++ u' :: ls = (done ++ [u']) ++ ls by simp]
      exact b1
    · rcases List.mem_cons.1 hu with h | h
      · subst h; exact ⟨a5, a6⟩
      · exact b6 u h
theorem settle_sound (mk : Nat → Option Home) {w : V} {x : Value} {k : List V → Prog} (hC : CoreS n E σ (hs ++ [w]) ts (xs ++ [x]) H) (hr : (settle mk 0 w.leaves k).run σ = some σ') :
    ∃ E1 σ1 ls, CoreS n E1 σ1 (hs ++ [w.withLeaves ls]) ts (xs ++ [x]) H ∧ Grow base E H E1 H ∧ E1.addr = E.addr ∧ (k ls).run σ1 = some σ' ∧ ls.length = w.leaves.length ∧ ∀ u ∈ ls, u.leaf = true ∧ u.settled = true :=
  list_sound settle1_Sound settle (fun _ _ _ => rfl) (fun _ _ _ _ _ => rfl) mk w.leaves [] hC rfl hr
theorem keeps_sound (mk : Nat → Option Home) {w : V} {x : Value} {k : List V → Prog} (hC : CoreS n E σ (hs ++ [w]) ts (xs ++ [x]) H) (hr : (keeps mk 0 w.leaves k).run σ = some σ') :
    ∃ E1 σ1 ls, CoreS n E1 σ1 (hs ++ [w.withLeaves ls]) ts (xs ++ [x]) H ∧ Grow base E H E1 H ∧ E1.addr = E.addr ∧ (k ls).run σ1 = some σ' ∧ ls.length = w.leaves.length ∧ ∀ u ∈ ls, u.leaf = true ∧ True :=
  list_sound keep1_Sound keeps (fun _ _ _ => rfl) (fun _ _ _ _ _ => rfl) mk w.leaves [] hC rfl hr

/-! ### operands in hand -/
theorem plain_leaf {v : V} (h : v.plain = true) : v.leaf = true ∧ v.own = false ∧ v.refs1 = [] ∧ v.settled = true := by
  cases v <;> first | (simp [V.plain] at h; done) | exact ⟨rfl, rfl, rfl, rfl⟩
theorem hasX_false {v : V} (h : v.hasX = false) : ∀ u ∈ v.leaves, u.own = false := by
  intro u hu
  have := List.any_eq_false.1 h u hu
  cases u <;> first | rfl | simp at this
/-- A value read off an operand, in hand, as a slot would have it, its slices still where they are. -/
theorem opd_rel {o : Opd} {x : Value} {v : V} {k : V → Prog} (hC : CoreS n E σ hs ts xs H) (ho : OpdOk ts o x) (hr : (gOpd o k).run σ = some σ') :
    ∃ v, (k v).run σ = some σ' ∧ (∃ s, SlotRel E (σ.slots ++ hs) σ.objs (ts ++ xs) H s v x ∧ ∀ t, o = .tmp t → t < n → s = t) ∧ (∀ r ∈ v.refs, (∀ t i, r.1 = .slot t i → t < n) ∧ ∃ u, ct (σ.slots ++ hs) σ.objs r.1 = some u ∧ r.2 < u.nextg) ∧
      (∀ t, o = .tmp t → v = σ.slot t) ∧ (∀ v', o = .val v' → v = v' ∧ ∀ u ∈ v.leaves, u.own = false) := by
  cases o with
  | tmp t =>
    refine ⟨σ.slot t, hr, ⟨t, ?_, fun t' e _ => (by cases e; rfl)⟩, hC.slotRefs t, fun t' e => (by cases e; rfl), fun v' e => (by cases e)⟩
    by_cases ht : t < n
    · have := hC.slotRel ht; simp only [OpdOk] at ho; rw [ho] at this; exact this
    · rw [hC.slotBig ht]; exact ⟨trivial, fun i u y hu _ => by cases i with | zero => simp at hu; subst hu; trivial | succ i => simp at hu⟩
  | val v =>
    exact ⟨v, hr, ⟨0, ho.1 _ _ _ _ _ _, fun t e => (by cases e)⟩, (by rw [ho.2.1]; intro r hr; cases hr), fun t e => (by cases e), fun v' e => (by cases e; exact ⟨rfl, ho.2.2⟩)⟩
theorem slotRel_any {s : Nat} {v : V} {x : Value} {slots : List V} {objs : List (Option Obj)} {vals : List Value} (h : SlotRel E slots objs vals H s v x) (ho : ∀ u ∈ v.leaves, u.own = false) (s' : Nat) : SlotRel E slots objs vals H s' v x :=
  ⟨h.1, fun i u y hu hy => (h.2 i u y hu hy).move (fun _ _ h => ⟨h, rfl⟩) (fun h1 => by rw [ho u (List.mem_of_getElem? hu)] at h1; cases h1) (fun h1 => by rw [ho u (List.mem_of_getElem? hu)] at h1; cases h1) (fun _ _ h => ⟨rfl, h⟩) (fun _ _ _ _ h => ⟨rfl, h⟩) fun _ _ _ h => ⟨h, rfl⟩⟩

/-- A value with all that it owns, in hand. -/
theorem grab_sound {o : Opd} {x : Value} {k : Prog} {v : V} (hC : CoreS n E σ hs ts xs H) (hv : ∃ s, SlotRel E (σ.slots ++ hs) σ.objs (ts ++ xs) H s v x ∧ ∀ t, o = .tmp t → t < n → s = t)
    (hrf : ∀ r ∈ v.refs, (∀ t i, r.1 = .slot t i → t < n) ∧ ∃ u, ct (σ.slots ++ hs) σ.objs r.1 = some u ∧ r.2 < u.nextg)
    (h1 : ∀ t, o = .tmp t → v = σ.slot t) (h2 : ∀ v', o = .val v' → v = v' ∧ ∀ u ∈ v.leaves, u.own = false) (ho : OpdOk ts o x) (hr : (drain o k).run σ = some σ') :
    ∃ E1 σ1, CoreS n E1 σ1 (hs ++ [v]) ts (xs ++ [x]) H ∧ Grow base E H E1 H ∧ E1.addr = E.addr ∧ k.run σ1 = some σ' := by
  obtain ⟨s, hS, hs'⟩ := hv
  have hno : v.hasX = false → CoreS n E σ (hs ++ [v]) ts (xs ++ [x]) H := fun hx => hC.push (hasX_false hx) (slotRel_any hS (hasX_false hx) 0) hrf
  cases o with
  | tmp t =>
    have e := h1 t rfl
    subst e
    simp only [drain, Prog.run] at hr
    rw [Prog.run_ite] at hr
    split at hr
    · rename_i hx
      have ht : t < n := by
        rcases Nat.lt_or_ge t n with h | h
        · exact h
        · rw [hC.slotBig (by omega)] at hx; simp [V.hasX] at hx
      have := hC.take ht
      simp only [OpdOk] at ho; rw [ho] at this
      exact ⟨_, _, this, Grow.retag _ _ _ _, rfl, hr⟩
    · rename_i hx
      exact ⟨E, σ, hno (by simpa using hx), Grow.refl _ _ _, rfl, hr⟩
  | val v' =>
    obtain ⟨rfl, h3⟩ := h2 v' rfl
    refine ⟨E, σ, ?_, Grow.refl _ _ _, rfl, hr⟩
    exact hC.push h3 (slotRel_any hS h3 0) hrf
theorem gMove_sound (mk : Nat → Option Home) {o : Opd} {x : Value} {k : V → Prog} (hC : CoreS n E σ hs ts xs H) (ho : OpdOk ts o x) (hr : (gMove mk o k).run σ = some σ') :
    ∃ E1 σ1 v, CoreS n E1 σ1 (hs ++ [v]) ts (xs ++ [x]) H ∧ Grow base E H E1 H ∧ E1.addr = E.addr ∧ (k v).run σ1 = some σ' ∧ ∀ u ∈ v.leaves, u.settled = true := by
  obtain ⟨v, hr, hv, hrf, h1, h2⟩ := opd_rel (v := .nil) hC ho hr
  rw [Prog.run_ite] at hr
  split at hr
  · rename_i hp
    have hpl := plain_leaf hp
    have hno : ∀ u ∈ v.leaves, u.own = false := by rw [leaves_leaf hpl.1]; simp [hpl.2.1]
    obtain ⟨s, hS, _⟩ := hv
    exact ⟨E, σ, v, hC.push hno (slotRel_any hS hno 0) hrf, Grow.refl _ _ _, rfl, hr, by rw [leaves_leaf hpl.1]; simp [hpl.2.2.2]⟩
  · obtain ⟨E1, σ1, a1, a2, a3, a4⟩ := grab_sound (base := base) hC hv hrf h1 h2 ho hr
    obtain ⟨E2, σ2, ls, b1, b2, b3, b4, b5, b6⟩ := settle_sound (base := base) mk a1 a4
    refine ⟨E2, σ2, _, b1, a2.trans b2, b3.trans a3, b4, ?_⟩
    rw [withLeaves_leaves (hand_rel a1).formed b5 fun u hu => (b6 u hu).1]
    exact fun u hu => (b6 u hu).2
theorem gKeep_sound (mk : Nat → Option Home) {o : Opd} {x : Value} {k : V → Prog} (hC : CoreS n E σ hs ts xs H) (ho : OpdOk ts o x) (hr : (gKeep mk o k).run σ = some σ') :
    ∃ E1 σ1 v, CoreS n E1 σ1 (hs ++ [v]) ts (xs ++ [x]) H ∧ Grow base E H E1 H ∧ E1.addr = E.addr ∧ (k v).run σ1 = some σ' := by
  obtain ⟨v, hr, hv, hrf, h1, h2⟩ := opd_rel (v := .nil) hC ho hr
  rw [Prog.run_ite] at hr
  split at hr
  · rename_i hp
    have hpl := plain_leaf hp
    have hno : ∀ u ∈ v.leaves, u.own = false := by rw [leaves_leaf hpl.1]; simp [hpl.2.1]
    obtain ⟨s, hS, _⟩ := hv
    exact ⟨E, σ, v, hC.push hno (slotRel_any hS hno 0) hrf, Grow.refl _ _ _, rfl, hr⟩
  · obtain ⟨E1, σ1, a1, a2, a3, a4⟩ := grab_sound (base := base) hC hv hrf h1 h2 ho hr
    obtain ⟨E2, σ2, ls, b1, b2, b3, b4, b5, b6⟩ := keeps_sound (base := base) mk a1 a4
    exact ⟨E2, σ2, _, b1, a2.trans b2, b3.trans a3, b4⟩
end
end Go.Vq
/- Operands; how an operation ends (no law of Go is stated here). -/
namespace Go.Vq
section
variable {P : Program} {n base : Nat} {E E' : Env} {σ σ' : St} {hs : List V} {ts xs : List Value} {H H' : Array Go.Obj}

/-! ### constants -/
theorem constLeaf {v : V} {x : Value} (hl : v.leaf = true) (ho : v.own = false) (hf : v.refs1 = []) (hx : leafX x = true)
    (hr : ∀ (E : Env) (slots : List V) (objs : List (Option Obj)) (vals : List Value) (H : Array Go.Obj) (h : Home), RelV E slots objs vals H h v x) : ConstOk v x := by
  refine ⟨fun E slots objs vals H s => ⟨shape_leaf hl hx, fun i u y hu hy => ?_⟩, ?_, ?_⟩
  · rw [leaves_leaf hl] at hu
    rw [vleaves_leaf hx] at hy
    cases i with
    | zero => simp at hu hy; subst hu hy; exact hr _ _ _ _ _ _
    | succ i => simp at hu
  · rw [V.refs, leaves_leaf hl]; simp [hf]
  · rw [leaves_leaf hl]; simp [ho]
theorem plainV_rel {x : Value} {v : V} (h : plainV x = some v) : v.leaf = true ∧ v.own = false ∧ v.refs1 = [] ∧ leafX x = true ∧ (∀ (imm : Nat → Nat → Prop) (H : Array Go.Obj), RelI imm H v x) ∧ (∀ E slots objs vals H h, RelV E slots objs vals H h v x) := by
  unfold plainV at h
  split at h <;> first
    | (cases h; done)
    | (cases h; first
        | exact ⟨rfl, rfl, rfl, rfl, fun _ _ => .bool _, fun _ _ _ _ _ _ => RelI.bool _⟩
        | exact ⟨rfl, rfl, rfl, rfl, fun _ _ => .int _ _, fun _ _ _ _ _ _ => RelI.int _ _⟩
        | exact ⟨rfl, rfl, rfl, rfl, fun _ _ => .str _, fun _ _ _ _ _ _ => RelI.str _⟩
        | exact ⟨rfl, rfl, rfl, rfl, fun _ _ => .nil, fun _ _ _ _ _ _ => RelI.nil⟩
        | exact ⟨rfl, rfl, rfl, rfl, fun _ _ => .nilm, fun _ _ _ _ _ _ => RelI.nilm⟩
        | exact ⟨rfl, rfl, rfl, rfl, fun _ _ => .nilf, fun _ _ _ _ _ _ => RelI.nilf⟩
        | exact ⟨rfl, rfl, rfl, rfl, fun _ _ => .nili, fun _ _ _ _ _ _ => RelI.nili⟩)
theorem valOf_rel {t : TypeId} {x : Value} {v : V} (h : valOf P t x = some v) : v.leaf = true ∧ v.own = false ∧ v.refs1 = [] ∧ leafX x = true ∧ (∀ E slots objs vals H h, RelV E slots objs vals H h v x) ∧ ∀ (imm : Nat → Nat → Prop) (H : Array Go.Obj), RelI imm H v x := by
  unfold valOf at h
  split at h
  · unfold nilOf at h
    simp only [Option.bind_eq_bind, Option.pure_def] at h
    obtain ⟨d, hd, h⟩ := Option.bind_eq_some_iff.1 h
    split at h
    · obtain ⟨z, hz, h⟩ := Option.bind_eq_some_iff.1 h
      cases h
      exact ⟨rfl, rfl, rfl, rfl, fun _ _ _ _ _ _ => RelI.nilS _, fun _ _ => .nilS _⟩
    · cases h
  · obtain ⟨h1, h2, h3, h4, h5, h6⟩ := plainV_rel h
    exact ⟨h1, h2, h3, h4, h6, h5⟩
theorem valsOf_rel : ∀ {ts : List TypeId} {xs : List Value} {vs : List V}, valsOf P ts xs = some vs → vs.length = xs.length ∧ ∀ (i : Nat) (v : V) (x : Value), vs[i]? = some v → xs[i]? = some x → ∃ t, valOf P t x = some v
  | [], [], vs, h => by cases h; exact ⟨rfl, fun i v x h => by simp at h⟩
  | [], _ :: _, vs, h => by cases h
  | _ :: _, [], vs, h => by cases h
  | t :: ts, x :: xs, vs, h => by
    simp only [valsOf, Option.bind_eq_bind, Option.pure_def] at h
    obtain ⟨v, hv, h⟩ := Option.bind_eq_some_iff.1 h
    obtain ⟨us, hu, h⟩ := Option.bind_eq_some_iff.1 h
    cases h
    obtain ⟨i1, i2⟩ := valsOf_rel hu
    refine ⟨by simp [i1], fun i v' x' h1 h2 => ?_⟩
    cases i with
    | zero => simp at h1 h2; subst h1 h2; exact ⟨t, hv⟩
    | succ i => exact i2 i v' x' (by simpa using h1) (by simpa using h2)
theorem aggConst {ts : List TypeId} {cs : Array Value} {vs : List V} (h : valsOf P ts cs.toList = some vs) : ConstOk (.agg vs) (.agg cs) := by
  obtain ⟨h1, h2⟩ := valsOf_rel h
  have hall : ∀ u ∈ vs, u.leaf = true ∧ u.own = false ∧ u.refs1 = [] := by
    intro u hu
    obtain ⟨i, hi, rfl⟩ := List.getElem_of_mem hu
    obtain ⟨t, ht⟩ := h2 i _ _ (List.getElem?_eq_getElem hi) (List.getElem?_eq_getElem (by omega))
    have := valOf_rel ht
    exact ⟨this.1, this.2.1, this.2.2.1⟩
  refine ⟨fun E slots objs vals H s => ⟨⟨cs, rfl, by simpa using h1⟩, fun i u y hu hy => ?_⟩, ?_, fun u hu => (hall u hu).2.1⟩
  · obtain ⟨t, ht⟩ := h2 i u y hu hy
    exact (valOf_rel ht).2.2.2.2.1 _ _ _ _ _ _
  · simp only [V.refs, V.leaves]
    rw [List.flatMap_eq_nil_iff]
    exact fun u hu => (hall u hu).2.2
theorem opd_ok {t : TypeId} {o : Operand} {v : Opd} (a : Act) (h : opd P t o = some v) : OpdOk a.tmps.toList v (a.eval o) := by
  unfold opd at h
  split at h
  · cases h; simp [OpdOk, Act.eval, Array.getD_eq_getD_getElem?, List.getD_eq_getElem?_getD]
  · simp only [Option.bind_eq_bind, Option.pure_def] at h
    obtain ⟨ts, _, h⟩ := Option.bind_eq_some_iff.1 h
    obtain ⟨vs, hv, h⟩ := Option.bind_eq_some_iff.1 h
    cases h
    exact aggConst hv
  · obtain ⟨u, hu, h⟩ := Option.map_eq_some_iff.1 h
    subst h
    obtain ⟨h1, h2, h3, h4, h5, _⟩ := valOf_rel hu
    exact constLeaf h1 h2 h3 h4 h5
  · cases h
    exact constLeaf rfl rfl rfl rfl fun E slots objs vals H h => RelC.func _ [] #[] rfl (fun i v x h => by simp at h)
  · cases h
theorem opd0_ok {o : Operand} {v : Opd} (a : Act) (h : opd0 o = some v) : OpdOk a.tmps.toList v (a.eval o) := by
  unfold opd0 at h
  split at h
  · cases h; simp [OpdOk, Act.eval, Array.getD_eq_getD_getElem?, List.getD_eq_getElem?_getD]
  · cases h
  · obtain ⟨u, hu, h⟩ := Option.map_eq_some_iff.1 h
    subst h
    obtain ⟨h1, h2, h3, h4, h5, h6⟩ := plainV_rel hu
    exact constLeaf h1 h2 h3 h4 h6
  · cases h
    exact constLeaf rfl rfl rfl rfl fun E slots objs vals H h => RelC.func _ [] #[] rfl (fun i v x h => by simp at h)
  · cases h

/-! ### the end of an operation -/
/-- What the world keeps through a run but memory. -/
structure WSame (w w' : World) : Prop where
  os : w'.os = w.os
  output : w'.output = w.output
  tape : w'.tape = w.tape
theorem WSame.refl (w : World) : WSame w w := ⟨rfl, rfl, rfl⟩
theorem WSame.trans {w w1 w2 : World} (h : WSame w w1) (h' : WSame w1 w2) : WSame w w2 := ⟨h'.os.trans h.os, h'.output.trans h.output, h'.tape.trans h.tape⟩

/-- What is to be shown behind an operation. -/
def NextOk (n base : Nat) (E : Env) (σ' : St) (a : Act) (w : World) (next : Act → World → Prop) : Prop :=
  ∀ (E' : Env) (a' : Act) (w' : World), CoreS n E' σ' [] a'.tmps.toList [] w'.heap → Grow base E w.heap E' w'.heap → WSame w w' → a'.defers = a.defers → next a' w'

/-- The slots with one laid anew. -/
def putL (ts : List Value) (d : Option Nat) (x : Value) : List Value := match d with | some d => ts.set d x | none => ts
theorem putO_sound {v : V} {x : Value} {d : Option Nat} {k : Prog} (hC : CoreS n E σ (hs ++ [v]) ts (xs ++ [x]) H) (hr : (putO d v k).run σ = some σ') :
    ∃ E1 σ1, CoreS n E1 σ1 hs (putL ts d x) xs H ∧ Grow base E H E1 H ∧ E1.addr = E.addr ∧ k.run σ1 = some σ' := by
  cases d with
  | none => exact ⟨E, σ, hC.pop, Grow.refl _ _ _, rfl, hr⟩
  | some d =>
    obtain ⟨ls, h1, h2⟩ := put_run hr
    rcases Nat.lt_or_ge d n with hd | hd
    · exact ⟨_, _, hC.put hd h1, Grow.retag _ _ _ _, rfl, h2⟩
    · refine ⟨E, σ, ?_, Grow.refl _ _ _, rfl, ?_⟩
      · simp only [putL]; rw [List.set_eq_of_length_le (by rw [hC.tl]; exact hd)]; exact hC.pop
      · have : σ.setS d (v.withLeaves ls) = σ := by
          simp only [St.setS]; rw [List.set_eq_of_length_le (by rw [hC.sl]; exact hd)]
        rw [this] at h2; exact h2
theorem put_toList (a : Act) (d : Option Nat) (x : Value) : (a.put d x).tmps.toList = putL a.tmps.toList d x := by
  cases d <;> simp [Act.put, putL]
theorem put_defers (a : Act) (d : Option Nat) (x : Value) : (a.put d x).defers = a.defers := by cases d <;> rfl

/-- An operation that answers a value: what is in hand goes into its slot. -/
theorem value_end {o : Oper} {a : Act} {w w1 : World} {next : Act → World → Prop} {Q : Exit → Act → World → Prop} {E1 : Env} {σ1 : St} {v : V} {x : Value}
    (hC : CoreS n E1 σ1 [v] a.tmps.toList [x] w1.heap) (hG : Grow base E w.heap E1 w1.heap) (hW : WSame w w1) (hr : (putO o.dst v .ret).run σ1 = some σ') (K : NextOk n base E σ' a w next)
    (hx : (execOp a.eval o).run P w = .ok (.value x) w1) : o.upon P a next Q ((execOp a.eval o).run P w) := by
  rw [hx, Oper.upon_value]
  obtain ⟨E2, σ2, h1, h2, _, h3⟩ := putO_sound (base := base) (hs := []) (xs := []) hC hr
  cases h3
  exact K E2 _ w1 (by rw [put_toList]; exact h1) (hG.trans h2) hW (put_defers _ _ _)
end
end Go.Vq
/- Operations on slots alone (no law of Go is stated here). -/
namespace Go.Vq
section
variable {P : Program} {n base : Nat} {E E' : Env} {σ σ' : St} {hs : List V} {ts xs : List Value} {H H' : Array Go.Obj}

/-! ### what is borrowed -/
theorem borrow1_rel {slots : List V} {objs : List (Option Obj)} {vals : List Value} {h h' : Home} {u : V} {y : Value} (hv : RelV E slots objs vals H h u y) (hy : hd E vals H h = some y) :
    RelV E slots objs vals H h' (borrow1 h u) y := by
  cases u with
  | xsl g sz es =>
    obtain ⟨a, cap, e1, e2, e3, e4, e5, e6⟩ := hv
    refine ⟨a, cap, e1, e2, e3, e4, fun _ => ⟨a, es.length, cap, by rw [hy, e1], fun hc => ?_⟩⟩
    obtain ⟨ad, arr, T, f, f1, _⟩ := e5 hc
    subst f1
    refine ⟨ad, rfl, ?_, by omega⟩
    have := e4 ad rfl
    cases ad; simp_all
  | fsl g sz es =>
    obtain ⟨a, cap, e1, e2, e3, e4, e5, e6⟩ := hv
    refine ⟨a, cap, e1, e2, e3, e4, fun _ => ⟨a, es.length, cap, by rw [hy, e1], fun hc => ?_⟩⟩
    obtain ⟨ad, arr, T, f, f1, _⟩ := e5 hc
    subst f1
    refine ⟨ad, rfl, ?_, by omega⟩
    have := e4 ad rfl
    cases ad; simp_all
  | isl g sz es =>
    simp only [RelV, borrow1] at hv ⊢
    cases hv with
    | isl _ _ _ a cap xs hc ha hsp hz hx h => exact .isl _ _ _ a cap xs hc ha hsp hz hx h
  | gone g => trivial
  | _ => exact hv.move (fun _ _ h => ⟨h, rfl⟩) (fun h => by simp [V.own] at h) (fun h => by simp [V.own] at h) (fun _ _ h => ⟨rfl, h⟩) (fun _ _ _ _ h => ⟨rfl, h⟩) fun _ _ _ h => ⟨h, rfl⟩
theorem borrow1_leaf {h : Home} {u : V} (hl : u.leaf = true) : (borrow1 h u).leaf = true := by cases u <;> first | rfl | exact hl
theorem borrow1_own (h : Home) (u : V) : (borrow1 h u).own = false := by cases u <;> rfl
theorem borrow1_refs (h : Home) (u : V) : ∀ r ∈ (borrow1 h u).refs1, r ∈ u.refs1 ∨ (r.1 = h ∧ r.2 < u.nextg) := by
  intro r hr
  cases u <;> first
    | exact .inl hr
    | (simp only [borrow1, V.refs1, List.mem_singleton] at hr; subst hr; exact .inr ⟨rfl, by simp [V.nextg]⟩)
    | (simp [borrow1, V.refs1] at hr; done)
theorem borrows_get : ∀ (mk : Nat → Home) (j : Nat) (vs : List V) (i : Nat), (borrows mk j vs)[i]? = (vs[i]?).map (borrow1 (mk (j + i)))
  | _, _, [], i => by simp [borrows]
  | mk, j, v :: vs, 0 => by simp [borrows]
  | mk, j, v :: vs, i + 1 => by simp only [borrows, List.getElem?_cons_succ]; rw [borrows_get mk (j + 1) vs i, show j + 1 + i = j + (i + 1) by omega]
theorem borrows_len : ∀ (mk : Nat → Home) (j : Nat) (vs : List V), (borrows mk j vs).length = vs.length
  | _, _, [] => rfl
  | mk, j, v :: vs => by simp [borrows, borrows_len]
/-- A slot's value as it is read. -/
theorem CoreS.borrow (hC : CoreS n E σ hs ts xs H) {t : Nat} : CoreS n E σ (hs ++ [(σ.slot t).borrow (.slot t)]) ts (xs ++ [ts.getD t undef]) H := by
  by_cases ht : t < n
  · have hS := hC.slotRel ht
    have hrf := hC.slotRefs t
    generalize hv : σ.slot t = v at *
    have hlf : ∀ u ∈ borrows (.slot t) 0 v.leaves, u.leaf = true := by
      intro u hu
      obtain ⟨i, hi, rfl⟩ := List.getElem_of_mem hu
      have h1 := borrows_get (.slot t) 0 v.leaves i
      rw [List.getElem?_eq_getElem hi] at h1
      obtain ⟨z, hz, hz'⟩ := Option.map_eq_some_iff.1 h1.symm
      rw [← hz']; exact borrow1_leaf (hS.leafs z (List.mem_of_getElem? hz))
    have hwl : (v.borrow (.slot t)).leaves = borrows (.slot t) 0 v.leaves := withLeaves_leaves hS.formed (borrows_len _ _ _) hlf
    refine hC.push ?_ ⟨?_, fun i u y hu hy => ?_⟩ ?_
    · rw [hwl]
      intro u hu
      obtain ⟨i, hi, rfl⟩ := List.getElem_of_mem hu
      have h1 := borrows_get (.slot t) 0 v.leaves i
      rw [List.getElem?_eq_getElem hi] at h1
      obtain ⟨z, hz, hz'⟩ := Option.map_eq_some_iff.1 h1.symm
      rw [← hz']; exact borrow1_own _ _
    · by_cases hg : ∃ g, v = .gone g
      · obtain ⟨g, rfl⟩ := hg; trivial
      · exact withLeaves_shape hS.formed (borrows_len _ _ _) hlf hS.1 fun g e => hg ⟨g, e⟩
    · rw [hwl, borrows_get] at hu
      obtain ⟨z, hz, rfl⟩ := Option.map_eq_some_iff.1 hu
      rw [Nat.zero_add]
      refine borrow1_rel (hS.2 i z y hz hy) ?_
      obtain ⟨x', hx'⟩ := exists_getElem? (l := ts) (i := t) (hC.tl ▸ ht)
      rw [getD_of_getElem? hx'] at hy
      simp only [hd, List.getElem?_append_left (lt_of_getElem? hx'), hx', Option.bind_some]; exact hy
    · intro r hr
      rw [refs_of_leaves hwl, List.mem_flatMap] at hr
      obtain ⟨u, hu, hr⟩ := hr
      obtain ⟨i, hi, rfl⟩ := List.getElem_of_mem hu
      have h1 := borrows_get (.slot t) 0 v.leaves i
      rw [List.getElem?_eq_getElem hi] at h1
      obtain ⟨z, hz, hz'⟩ := Option.map_eq_some_iff.1 h1.symm
      rw [← hz'] at hr
      rcases borrow1_refs _ _ r hr with h2 | ⟨h2, h3⟩
      · exact hrf r (mem_refs hz h2)
      · refine ⟨fun t' i' e => by rw [h2] at e; cases e; exact ht, z, ?_, h3⟩
        rw [h2, ct_append_left _ _ _ _ _ (hC.sl ▸ ht), Nat.zero_add]
        show (σ.slot t).leaves[i]? = some z
        rw [hv]; exact hz
  · have e : (σ.slot t).borrow (.slot t) = .gone 0 := by rw [hC.slotBig ht]; rfl
    rw [e]
    exact hC.push (by simp [V.own]) ⟨trivial, fun i u y hu _ => by cases i with | zero => simp at hu; subst hu; trivial | succ i => simp at hu⟩ (by intro r hr; simp [V.refs, V.refs1] at hr)
/-- An operand's value in hand, where it owns nothing. -/
theorem CoreS.pushOpd {o : Opd} {x : Value} {v : V} (hC : CoreS n E σ hs ts xs H) (hv : ∃ s, SlotRel E (σ.slots ++ hs) σ.objs (ts ++ xs) H s v x ∧ ∀ t, o = .tmp t → t < n → s = t)
    (hrf : ∀ r ∈ v.refs, (∀ t i, r.1 = .slot t i → t < n) ∧ ∃ u, ct (σ.slots ++ hs) σ.objs r.1 = some u ∧ r.2 < u.nextg) (hno : ∀ u ∈ v.leaves, u.own = false) : CoreS n E σ (hs ++ [v]) ts (xs ++ [x]) H := by
  obtain ⟨s, hS, _⟩ := hv
  exact hC.push hno (slotRel_any hS hno 0) hrf

/-! ### the operations -/
variable {callee : Callee} {o : Oper} {a : Act} {w : World} {next : Act → World → Prop} {Q : Exit → Act → World → Prop}

theorem plain_no {v : V} (h : v.plain = true) : ∀ u ∈ v.leaves, u.own = false := by rw [leaves_leaf (plain_leaf h).1]; simp [(plain_leaf h).2.1]

theorem op_move {x : Operand} {x' : Opd} (ho : o.op = .move x) (hx : opd P o.type x = some x') (hC : CoreS n E σ [] a.tmps.toList [] w.heap)
    (hr : (opProg callee base o.dst (.move x')).run σ = some σ') (K : NextOk n base E σ' a w next) : o.upon P a next Q ((execOp a.eval o).run P w) := by
  have hrun : (execOp a.eval o).run P w = .ok (.value (a.eval x)) w := by simp [execOp, ho]
  have hok := opd_ok a hx
  replace hr := opd_rel (v := .nil) hC hok hr
  obtain ⟨v, hr, hv, hrf, h1, h2⟩ := hr
  rw [Prog.run_ite] at hr
  split at hr
  · rename_i hp
    exact value_end (hC.pushOpd hv hrf (plain_no hp)) (Grow.refl _ _ _) (WSame.refl _) hr K hrun
  · by_cases ht : ∃ vs, v = .tup vs
    · obtain ⟨vs, rfl⟩ := ht
      obtain ⟨E1, σ1, a1, a2, a3, a4⟩ := grab_sound (base := base) hC hv hrf h1 h2 hok hr
      exact value_end a1 a2 (WSame.refl _) a4 K hrun
    · cases x' with
      | tmp t =>
        have e := h1 t rfl
        have hr' : (putO o.dst (v.borrow (.slot t)) .ret).run σ = some σ' := by
          cases v <;> first | exact hr | exact absurd ⟨_, rfl⟩ ht
        rw [e] at hr'
        have hb := hC.borrow (t := t)
        simp only [OpdOk] at hok
        rw [hok] at hb
        exact value_end hb (Grow.refl _ _ _) (WSame.refl _) hr' K hrun
      | val v' =>
        have hr' : (putO o.dst v .ret).run σ = some σ' := by
          cases v <;> first | exact hr | exact absurd ⟨_, rfl⟩ ht
        exact value_end (hC.pushOpd hv hrf (h2 _ rfl).2) (Grow.refl _ _ _) (WSame.refl _) hr' K hrun
theorem op_assign {x : Operand} {x' : Opd} (ho : o.op = .assign x) (hx : opd P o.type x = some x') (hC : CoreS n E σ [] a.tmps.toList [] w.heap)
    (hr : (opProg callee base o.dst (.assign x')).run σ = some σ') (K : NextOk n base E σ' a w next) : o.upon P a next Q ((execOp a.eval o).run P w) := by
  have hrun : (execOp a.eval o).run P w = .ok (.value (a.eval x)) w := by simp [execOp, ho]
  obtain ⟨E1, σ1, v, a1, a2, a3, a4⟩ := gKeep_sound (base := base) _ hC (opd_ok a hx) hr
  exact value_end a1 a2 (WSame.refl _) a4 K hrun
/-- A bool that an operand is. -/
theorem gBool_sound {o : Opd} {x : Value} {k : Bool → Prog} (hC : CoreS n E σ hs ts xs H) (ho : OpdOk ts o x) (hr : (gBool o k).run σ = some σ') : ∃ b, x = .bool b ∧ (k b).run σ = some σ' := by
  replace hr := opd_rel (v := .nil) hC ho hr
  obtain ⟨v, hr, ⟨s, hS, hs'⟩, hrest⟩ := hr
  clear hrest hs'
  split at hr
  · rename_i b
    have h1 := leaf_shape (v := .bool b) rfl (fun g => by simp) hS.1
    have h2 := hS.2 0 (.bool b) x rfl (by rw [vleaves_leaf h1]; rfl)
    cases h2; exact ⟨b, rfl, hr⟩
  · cases hr
theorem gInt_sound {o : Opd} {x : Value} {k : Int → Prog} (hC : CoreS n E σ hs ts xs H) (ho : OpdOk ts o x) (hr : (gInt o k).run σ = some σ') : ∃ kk m, x = .int kk m ∧ (k m).run σ = some σ' := by
  replace hr := opd_rel (v := .nil) hC ho hr
  obtain ⟨v, hr, ⟨s, hS, hs'⟩, hrest⟩ := hr
  clear hrest hs'
  split at hr
  · rename_i kk m
    have h1 := leaf_shape (v := .int kk m) rfl (fun g => by simp) hS.1
    have h2 := hS.2 0 (.int kk m) x rfl (by rw [vleaves_leaf h1]; rfl)
    cases h2; exact ⟨kk, m, rfl, hr⟩
  · cases hr
theorem op_pick {c x y : Operand} {c' x' y' : Opd} (ho : o.op = .pick c x y) (hc : opd0 c = some c') (hx : opd0 x = some x') (hy : opd0 y = some y') (hC : CoreS n E σ [] a.tmps.toList [] w.heap)
    (hr : (opProg callee base o.dst (.pick c' x' y')).run σ = some σ') (K : NextOk n base E σ' a w next) : o.upon P a next Q ((execOp a.eval o).run P w) := by
  obtain ⟨b, hb, hr⟩ := gBool_sound hC (opd0_ok a hc) hr
  have hrun : (execOp a.eval o).run P w = .ok (.value (if b then a.eval x else a.eval y)) w := by
    simp only [execOp, ho, hb, asBool]
    cases b <;> simp
  have hok : OpdOk a.tmps.toList (if b then x' else y') (if b then a.eval x else a.eval y) := by
    cases b
    · exact opd0_ok a hy
    · exact opd0_ok a hx
  replace hr := opd_rel (v := .nil) hC hok hr
  obtain ⟨v, hr, hv, hrf, h1, h2⟩ := hr
  rw [Prog.run_ite] at hr
  split at hr
  · rename_i hp
    exact value_end (hC.pushOpd hv hrf (plain_no hp)) (Grow.refl _ _ _) (WSame.refl _) hr K hrun
  · cases hr
/-- What a slot's leaf is in the model. -/
theorem rel_leaf {v : V} {x : Value} {s : Nat} {slots : List V} {objs : List (Option Obj)} {vals : List Value} (hS : SlotRel E slots objs vals H s v x) (hl : v.leaf = true) (hg : ∀ g, v ≠ .gone g) : leafX x = true ∧ RelV E slots objs vals H (.slot s 0) v x := by
  have h1 := leaf_shape hl hg hS.1
  exact ⟨h1, hS.2 0 v x (by rw [leaves_leaf hl]; rfl) (by rw [vleaves_leaf h1]; rfl)⟩
theorem op_nilCheck {x : Operand} {x' : Opd} (ho : o.op = .nilCheck x) (hx : opd0 x = some x') (hC : CoreS n E σ [] a.tmps.toList [] w.heap)
    (hr : (opProg callee base o.dst (.nilCheck x')).run σ = some σ') (K : NextOk n base E σ' a w next) : o.upon P a next Q ((execOp a.eval o).run P w) := by
  have hok := opd0_ok a hx
  replace hr := opd_rel (v := .nil) hC hok hr
  obtain ⟨v, hr, hv, hrf, h1, h2⟩ := hr
  obtain ⟨s, hS, hs'⟩ := hv
  split at hr
  · rename_i r
    obtain ⟨hl, hR⟩ := rel_leaf hS rfl (fun g => by simp)
    have hp : ∃ ad, a.eval x = .pointer (some ad) := by
      cases r with
      | obj ob off => exact ⟨_, hR.1⟩
      | elem h g sz i off => obtain ⟨ad, h, _⟩ := hR; exact ⟨ad, h⟩
    obtain ⟨ad, hp⟩ := hp
    exact value_end (hC.pushOpd ⟨s, hS, hs'⟩ hrf (by simp [leaves_leaf (v := .ptr r) rfl, V.own])) (Grow.refl _ _ _) (WSame.refl _) hr K (by simp [execOp, ho, hp])
  · rename_i cs
    obtain ⟨hl, hR⟩ := rel_leaf hS rfl (fun g => by simp)
    obtain ⟨ad, hp, _⟩ := hR
    exact value_end (hC.pushOpd ⟨s, hS, hs'⟩ hrf (by simp [leaves_leaf (v := .iptr cs) rfl, V.own])) (Grow.refl _ _ _) (WSame.refl _) hr K (by simp [execOp, ho, hp])
  · rename_i f cs
    obtain ⟨hl, hR⟩ := rel_leaf hS rfl (fun g => by simp)
    have hp : ∃ ys, a.eval x = .func (.func f) #[] ys := by
      generalize a.eval x = y at hR
      cases hR with
      | imm _ _ h => cases h
      | func _ _ xs hn h => exact ⟨xs, rfl⟩
    obtain ⟨ys, hp⟩ := hp
    exact value_end (hC.pushOpd ⟨s, hS, hs'⟩ hrf (by simp [leaves_leaf (v := .func f cs) rfl, V.own])) (Grow.refl _ _ _) (WSame.refl _) hr K (by simp [execOp, ho, hp])
  · cases hr
end
end Go.Vq
/- Arithmetic, comparisons, conversions of numbers (no law of Go is stated here). -/
namespace Go.Vq
section
variable {P : Program} {n base : Nat} {E E' : Env} {σ σ' : St} {hs : List V} {ts xs : List Value} {H H' : Array Go.Obj}
variable {callee : Callee} {o : Oper} {a : Act} {w : World} {next : Act → World → Prop} {Q : Exit → Act → World → Prop}

/-- What a plain value is in the model. -/
def V.toVal : V → Option Value
  | .bool b => some (.bool b)
  | .int k n => some (.int k n)
  | .str s => some (.string ⟨s.toArray⟩)
  | .nil => some (.pointer none)
  | .nilf => some .nilFunc
  | .nilm => some (.map none)
  | .nili => some .nilIface
  | .nilS _ => some (.slice none 0 0)
  | _ => none
theorem toVal_rel {v : V} {y : Value} (h : v.toVal = some y) (imm : Nat → Nat → Prop) (H : Array Go.Obj) : RelI imm H v y := by
  cases v <;> simp only [V.toVal, Option.some.injEq, reduceCtorEq] at h <;> subst h <;> constructor
theorem toVal_plain {v : V} {y : Value} (h : v.toVal = some y) : v.plain = true ∧ leafX y = true := by
  cases v <;> simp only [V.toVal, Option.some.injEq, reduceCtorEq] at h <;> subst h <;> exact ⟨rfl, rfl⟩
theorem relI_toVal {imm : Nat → Nat → Prop} {v : V} {x y : Value} (hr : RelI imm H v x) (h : v.toVal = some y) : x = y := by
  cases hr <;> simp only [V.toVal, Option.some.injEq, reduceCtorEq] at h <;> exact h
theorem relV_plain {slots : List V} {objs : List (Option Obj)} {vals : List Value} {h : Home} {v : V} {x : Value} (hp : v.plain = true) : RelV E slots objs vals H h v x ↔ RelI E.imm H v x := by
  cases v <;> first | rfl | simp [V.plain] at hp
theorem plain_toVal {v : V} (h : v.plain = true) : ∃ y, v.toVal = some y := by
  cases v <;> first | exact ⟨_, rfl⟩ | simp [V.plain] at h
theorem relV_toVal {slots : List V} {objs : List (Option Obj)} {vals : List Value} {h : Home} {v : V} {x y : Value} (hr : RelV E slots objs vals H h v x) (hy : v.toVal = some y) : x = y :=
  relI_toVal ((relV_plain (toVal_plain hy).1).1 hr) hy
theorem slot_toVal {slots : List V} {objs : List (Option Obj)} {vals : List Value} {s : Nat} {v : V} {x y : Value} (hS : SlotRel E slots objs vals H s v x) (hy : v.toVal = some y) : x = y := by
  have hp := plain_leaf (toVal_plain hy).1
  have hg : ∀ g, v ≠ .gone g := by rintro g rfl; cases hy
  exact relV_toVal (rel_leaf hS hp.1 hg).2 hy
/-- A plain value in hand. -/
theorem CoreS.pushPlain (hC : CoreS n E σ hs ts xs H) {v : V} {y : Value} (hy : v.toVal = some y) : CoreS n E σ (hs ++ [v]) ts (xs ++ [y]) H := by
  obtain ⟨hp, hl⟩ := toVal_plain hy
  have hpl := plain_leaf hp
  refine hC.push (plain_no hp) ⟨shape_leaf hpl.1 hl, fun i u z hu hz => ?_⟩ (by rw [V.refs, leaves_leaf hpl.1]; simp [hpl.2.2.1])
  rw [leaves_leaf hpl.1] at hu; rw [vleaves_leaf hl] at hz
  cases i with
  | zero => simp at hu hz; subst hu hz; exact (relV_plain hp).2 (toVal_rel hy _ _)
  | succ i => simp at hu
/-- An operation that answers a plain value. -/
theorem plain_end {v : V} {y : Value} (hC : CoreS n E σ [] a.tmps.toList [] w.heap) (hy : v.toVal = some y) (hr : (putO o.dst v .ret).run σ = some σ') (K : NextOk n base E σ' a w next)
    (hx : (execOp a.eval o).run P w = .ok (.value y) w) : o.upon P a next Q ((execOp a.eval o).run P w) :=
  value_end (hC.pushPlain hy) (Grow.refl _ _ _) (WSame.refl _) hr K hx

/-! ### bits -/
theorem bitsV_run {op : BinOp} {k : IntKind} {x y r : Int} (h : bitsV op k x y = some r) : (Op.intBits op k x y).run P w = .ok (.int k r) w := by
  cases op <;> simp [bitsV] at h <;> subst h <;> simp [Op.intBits]

theorem size_mk (l : List UInt8) : (ByteArray.mk l.toArray).size = l.length := by simp [ByteArray.size]
theorem append_mk (a b : List UInt8) : ByteArray.mk a.toArray ++ ByteArray.mk b.toArray = ByteArray.mk (a ++ b).toArray := by
  apply ByteArray.ext
  simp [ByteArray.data_append]

theorem eqGuard_skip {op : BinOp} {t : TypeId} {x y : Operand} {u v : Value} (h : op ≠ .eql ∧ op ≠ .neq) : (eqGuard op t x y u v).run P w = .ok () w := by
  cases op <;> first | (simp at h; done) | simp [eqGuard]
theorem eqGuard_plain {op : BinOp} {t : TypeId} {x y : Operand} {u v : Value} (h : leafX u = true) (hn : u ≠ .nilIface) : (eqGuard op t x y u v).run P w = .ok () w := by
  cases op <;> cases u <;> first | (simp [leafX] at h; done) | exact absurd rfl hn | (cases v <;> simp [eqGuard])
/-- '+', '<' and their like: on numbers and texts. -/
theorem binV_run {op : BinOp} {t : TypeId} {u v r : V} {xu xv : Value} (hu : u.toVal = some xu) (hv : v.toVal = some xv) (h : binV op u v = some r) :
    ∃ yr, r.toVal = some yr ∧ (Go.binOp op t xu xv).run P w = .ok yr w := by
  unfold binV at h
  split at h
  all_goals (try simp only [V.toVal, Option.some.injEq, reduceCtorEq] at hu hv)
  all_goals (try subst hu)
  all_goals (try subst hv)
  case h_1 => split at h; · cases h
              · cases h; exact ⟨_, rfl, by simp [Go.binOp, Op.shift, *]⟩
  case h_2 => split at h; · cases h
              · cases h; exact ⟨_, rfl, by simp [Go.binOp, Op.shift, *]⟩
  case h_3 => split at h
              · rename_i hk; subst hk; cases h; exact ⟨_, rfl, by simp [Go.binOp, Op.intArith]⟩
              · cases h
  case h_4 => split at h
              · rename_i hk; subst hk; cases h; exact ⟨_, rfl, by simp [Go.binOp, Op.intArith]⟩
              · cases h
  case h_5 => split at h
              · rename_i hk; subst hk; cases h; exact ⟨_, rfl, by simp [Go.binOp, Op.intArith]⟩
              · cases h
  case h_6 => split at h
              · rename_i hk; subst hk
                split at h
                · cases h
                · cases h; exact ⟨_, rfl, by simp [Go.binOp, Op.intDiv, *]⟩
              · cases h
  case h_7 => split at h
              · rename_i hk; subst hk
                split at h
                · cases h
                · cases h; exact ⟨_, rfl, by simp [Go.binOp, Op.intDiv, *]⟩
              · cases h
  case h_8 => split at h
              · rename_i hk; subst hk; cases h; exact ⟨_, rfl, by simp [Go.binOp, Op.intCmp]⟩
              · cases h
  case h_9 => split at h
              · rename_i hk; subst hk; cases h; exact ⟨_, rfl, by simp [Go.binOp, Op.intCmp]⟩
              · cases h
  case h_10 => split at h
               · rename_i hk; subst hk; cases h; exact ⟨_, rfl, by simp [Go.binOp, Op.intCmp]⟩
               · cases h
  case h_11 => split at h
               · rename_i hk; subst hk; cases h; exact ⟨_, rfl, by simp [Go.binOp, Op.intCmp]⟩
               · cases h
  case h_12 => split at h
               · rename_i la lb hlen
                 cases h
                 refine ⟨_, rfl, ?_⟩
                 have h1 : ¬ ((ByteArray.size (⟨List.toArray la⟩ : ByteArray) + ByteArray.size (⟨List.toArray lb⟩ : ByteArray) : Nat) : Int) > IntKind.i64.max := by
                   rw [size_mk, size_mk]
                   have : IntKind.i64.max = 9223372036854775807 := by decide
                   omega
                 simp only [Go.binOp, Op.stringOp]
                 rw [if_neg h1]
                 simp [append_mk]
               · cases h
  case h_13 => cases h; exact ⟨_, rfl, by simp [Go.binOp, Op.stringOp]⟩
  case h_14 => cases h; exact ⟨_, rfl, by simp [Go.binOp, Op.stringOp]⟩
  case h_15 => cases h; exact ⟨_, rfl, by simp [Go.binOp, Op.stringOp]⟩
  case h_16 => cases h; exact ⟨_, rfl, by simp [Go.binOp, Op.stringOp]⟩
  case h_17 => split at h
               · rename_i hk; subst hk
                 obtain ⟨r', hr', rfl⟩ := Option.map_eq_some_iff.1 h
                 exact ⟨_, rfl, by simp only [Go.binOp]; simp only [ne_eq, not_true_eq_false, if_false]; exact bitsV_run hr'⟩
               · cases h
  case h_18 => split at h
               · rename_i hk; subst hk
                 obtain ⟨r', hr', rfl⟩ := Option.map_eq_some_iff.1 h
                 exact ⟨_, rfl, by simp only [Go.binOp]; simp only [ne_eq, not_true_eq_false, if_false]; exact bitsV_run hr'⟩
               · cases h
  case h_19 => split at h
               · rename_i hk; subst hk
                 obtain ⟨r', hr', rfl⟩ := Option.map_eq_some_iff.1 h
                 exact ⟨_, rfl, by simp only [Go.binOp]; simp only [ne_eq, not_true_eq_false, if_false]; exact bitsV_run hr'⟩
               · cases h
  case h_20 => split at h
               · rename_i hk; subst hk
                 obtain ⟨r', hr', rfl⟩ := Option.map_eq_some_iff.1 h
                 exact ⟨_, rfl, by simp only [Go.binOp]; simp only [ne_eq, not_true_eq_false, if_false]; exact bitsV_run hr'⟩
               · cases h
  case h_21 => cases h
theorem unV_run {op : UnOp} {u r : V} {xu : Value} (hu : u.toVal = some xu) (h : unV op u = some r) : ∃ yr, r.toVal = some yr ∧ (Op.unary op xu).run P w = .ok yr w := by
  unfold unV at h
  split at h
  all_goals (try simp only [V.toVal, Option.some.injEq, reduceCtorEq] at hu)
  all_goals (try subst hu)
  · cases h; exact ⟨_, rfl, by simp [Op.unary]⟩
  · cases h; exact ⟨_, rfl, by simp [Op.unary, Op.intArith]⟩
  · obtain ⟨r', hr', rfl⟩ := Option.map_eq_some_iff.1 h
    exact ⟨_, rfl, by simp only [Op.unary]; exact bitsV_run hr'⟩
  · cases h
theorem optV_run {v : Option V} {k : V → Prog} (hr : (optV v k).run σ = some σ') : ∃ u, v = some u ∧ (k u).run σ = some σ' := by
  cases v with
  | none => cases hr
  | some u => exact ⟨u, rfl, hr⟩
/-- What binV and unV work on are plain values. -/
theorem binV_plain {op : BinOp} {u v r : V} (h : binV op u v = some r) : (∃ x, u.toVal = some x) ∧ ∃ y, v.toVal = some y := by
  unfold binV at h
  split at h <;> first | exact ⟨⟨_, rfl⟩, ⟨_, rfl⟩⟩ | cases h
theorem unV_plain {op : UnOp} {u r : V} (h : unV op u = some r) : ∃ x, u.toVal = some x := by
  unfold unV at h
  split at h <;> first | exact ⟨_, rfl⟩ | cases h
theorem op_bin {op : BinOp} {t t' : TypeId} {x y : Operand} {x' y' : Opd} (ho : o.op = .binOp op t x y t') (hne : op ≠ .eql ∧ op ≠ .neq) (hx : opd0 x = some x') (hy : opd0 y = some y') (hC : CoreS n E σ [] a.tmps.toList [] w.heap)
    (hr : (opProg callee base o.dst (.bin op x' y')).run σ = some σ') (K : NextOk n base E σ' a w next) : o.upon P a next Q ((execOp a.eval o).run P w) := by
  obtain ⟨u, hr, ⟨s, hS, _⟩, _⟩ := opd_rel (v := .nil) hC (opd0_ok a hx) hr
  obtain ⟨v, hr, ⟨s2, hS2, _⟩, _⟩ := opd_rel (v := .nil) hC (opd0_ok a hy) hr
  obtain ⟨r, hbin, hr⟩ := optV_run hr
  obtain ⟨⟨xu, hu⟩, ⟨xv, hv⟩⟩ := binV_plain hbin
  obtain ⟨yr, hyr, hrun⟩ := binV_run (P := P) (w := w) (t := t) hu hv hbin
  have e1 := slot_toVal hS hu
  have e2 := slot_toVal hS2 hv
  refine plain_end hC hyr hr K ?_
  simp only [execOp, ho, e1, e2]
  simp [eqGuard_skip hne, hrun]
theorem op_un {op : UnOp} {t : TypeId} {x : Operand} {x' : Opd} (ho : o.op = .unOp op t x) (hx : opd0 x = some x') (hC : CoreS n E σ [] a.tmps.toList [] w.heap)
    (hr : (opProg callee base o.dst (.un op x')).run σ = some σ') (K : NextOk n base E σ' a w next) : o.upon P a next Q ((execOp a.eval o).run P w) := by
  obtain ⟨u, hr, ⟨s, hS, _⟩, _⟩ := opd_rel (v := .nil) hC (opd0_ok a hx) hr
  obtain ⟨r, hun, hr⟩ := optV_run hr
  obtain ⟨xu, hu⟩ := unV_plain hun
  obtain ⟨yr, hyr, hrun⟩ := unV_run (P := P) (w := w) hu hun
  have e1 := slot_toVal hS hu
  refine plain_end hC hyr hr K ?_
  simp only [execOp, ho, e1]
  simp [hrun]
end
end Go.Vq
/- '==' (no law of Go is stated here). -/
namespace Go.Vq
section
variable {P : Program} {n base : Nat} {E E' : Env} {σ σ' : St} {hs : List V} {ts xs : List Value} {H H' : Array Go.Obj}
variable {callee : Callee} {o : Oper} {a : Act} {w : World} {next : Act → World → Prop} {Q : Exit → Act → World → Prop}

theorem str_eq (a b : List UInt8) : (ByteArray.mk a.toArray == ByteArray.mk b.toArray) = (a == b) := by
  show (a.toArray == b.toArray) = (a == b)
  rw [Bool.eq_iff_iff, beq_iff_eq, beq_iff_eq]
  constructor
  · intro h; simpa using h
  · rintro rfl; rfl
/-- Cells that stand for cells. -/
def CellsRel (as : List V) (xs : Array Value) : Prop := as.length = xs.size ∧ ∀ (i : Nat) (u : V) (y : Value), as[i]? = some u → xs[i]? = some y → ∀ z, u.toVal = some z → y = z
theorem CellsRel.extract {as : List V} {xs : Array Value} (h : CellsRel as xs) (i m : Nat) (hm : i + m ≤ as.length) : CellsRel ((as.drop i).take m) (xs.extract i (i + m)) := by
  refine ⟨by rw [List.length_take, List.length_drop, Array.size_extract, ← h.1]; omega, fun j u y hu hy z hz => ?_⟩
  rw [List.getElem?_take] at hu
  split at hu
  · rename_i hj
    rw [List.getElem?_drop] at hu
    rw [Array.getElem?_extract] at hy
    split at hy
    · exact h.2 (i + j) u y hu hy z hz
    · cases hy
  · cases hu
theorem eqvs_append : ∀ (k1 k2 : List CK) (as bs : List V) (r : Bool), eqvs (k1 ++ k2) as bs = some r →
    k1.length + k2.length = as.length ∧ as.length = bs.length ∧ ∃ r1 r2, eqvs k1 (as.take k1.length) (bs.take k1.length) = some r1 ∧ eqvs k2 (as.drop k1.length) (bs.drop k1.length) = some r2 ∧ r = (r1 && r2)
  | [], k2, as, bs, r, h => by
    have hl : ∀ (ks : List CK) (as bs : List V) (r : Bool), eqvs ks as bs = some r → ks.length = as.length ∧ as.length = bs.length := by
      intro ks
      induction ks with
      | nil => intro as bs r h; cases as <;> cases bs <;> first | exact ⟨rfl, rfl⟩ | cases h
      | cons k ks ih =>
        intro as bs r h
        cases as <;> cases bs <;> try (cases h; done)
        simp only [eqvs, Option.bind_eq_bind, Option.pure_def] at h
        obtain ⟨p, hp, h⟩ := Option.bind_eq_some_iff.1 h
        obtain ⟨q, hq, h⟩ := Option.bind_eq_some_iff.1 h
        have := ih _ _ _ hq
        simp [this.1, this.2]
    have := hl _ _ _ _ h
    exact ⟨by simpa using this.1, this.2, true, r, rfl, h, by simp⟩
  | k :: k1, k2, as, bs, r, h => by
    cases as <;> cases bs <;> try (cases h; done)
    rename_i x as y bs
    simp only [List.cons_append, eqvs, Option.bind_eq_bind, Option.pure_def] at h
    obtain ⟨p, hp, h⟩ := Option.bind_eq_some_iff.1 h
    obtain ⟨q, hq, h⟩ := Option.bind_eq_some_iff.1 h
    cases h
    obtain ⟨l1, l2, r1, r2, h1, h2, h3⟩ := eqvs_append k1 k2 as bs q hq
    refine ⟨by simp at l1 ⊢; omega, by simp [l2], p && r1, r2, by simp [eqvs, hp, h1], h2, by rw [h3, Bool.and_assoc]⟩

theorem run_under {t : TypeId} {d : TypeDesc} (h : under P t = some d) : (underlying t).run P w = .ok d w := run_underlying h w
theorem run_size {t : TypeId} {m : Nat} (h : szOf P t = some m) : (sizeOf t).run P w = .ok m w := by
  unfold szOf at h
  obtain ⟨i, hi, rfl⟩ := Option.map_eq_some_iff.1 h
  simp [sizeOf, typeInfo, hi]
theorem run_aggOf {t : TypeId} {b : Bool} (h : aggOf P t = some b) : (isAgg t).run P w = .ok b w := by
  unfold aggOf at h
  simp only [Option.bind_eq_bind, Option.pure_def] at h
  obtain ⟨d, hd, h⟩ := Option.bind_eq_some_iff.1 h
  simp only [isAgg, Sem.run_bind, run_under hd, Result.andThen_ok]
  cases d <;> simp at h <;> subst h <;> rfl
/-- A part of an aggregate, or the whole of a plain value, as its cells. -/
def Fits (P : Program) (t : TypeId) (as : List V) (x : Value) : Prop :=
  (aggOf P t = some true ∧ ∃ xs, x = .agg xs ∧ CellsRel as xs) ∨ (aggOf P t = some false ∧ ∃ u, as = [u] ∧ ∀ z, u.toVal = some z → x = z)
theorem part_run {t : TypeId} {as : List V} {xs : Array Value} {off m : Nat} (hc : CellsRel as xs) (hm : off + m ≤ as.length) (hs : szOf P t = some m) {b : Bool} (ha : aggOf P t = some b) (h1 : b = false → m = 1) :
    ∃ x, (part t xs off).run P w = .ok x w ∧ Fits P t ((as.drop off).take m) x := by
  unfold part
  simp only [Sem.run_bind, run_aggOf ha, Result.andThen_ok]
  cases b with
  | true =>
    refine ⟨.agg (xs.extract off (off + m)), ?_, .inl ⟨ha, _, rfl, hc.extract off m hm⟩⟩
    simp [run_size hs]
  | false =>
    have hm1 := h1 rfl
    subst hm1
    obtain ⟨u, hu⟩ := exists_getElem? (l := as) (i := off) (by omega)
    have hlt : off < xs.size := by have := hc.1; omega
    refine ⟨xs[off], by simp [hlt], .inr ⟨ha, u, ?_, fun z hz => hc.2 off u xs[off] hu (by simp [hlt]) z hz⟩⟩
    rw [List.drop_eq_getElem_cons (by omega)]
    rw [List.getElem?_eq_getElem (by omega)] at hu
    simp at hu; simp [hu]
theorem lay_agg : ∀ (m : Nat) {t : TypeId} {ks : List CK}, eqLay P m t = some ks → ∃ b, aggOf P t = some b ∧ (b = false → ks.length = 1)
  | 0, _, _, h => by cases h
  | m + 1, t, ks, h => by
    unfold eqLay at h
    unfold aggOf
    cases hu : under P t with
    | none => simp [hu] at h
    | some d =>
      rw [hu] at h
      cases d <;> simp at h
      all_goals first
        | (subst h; exact ⟨false, rfl, fun _ => rfl⟩)
        | exact ⟨true, rfl, fun h => by cases h⟩
/-- '==' cell by cell. -/
theorem equalIn_run : ∀ (m d : Nat) (t : TypeId) (ks : List CK) (as bs : List V) (x y : Value) (r : Bool), m ≤ d → eqLay P m t = some ks → Fits P t as x → Fits P t bs y → eqvs ks as bs = some r → (Op.equalIn d t x y).run P w = .ok r w
  | 0, _, _, _, _, _, _, _, _, _, h, _, _, _ => by cases h
  | m + 1, 0, _, _, _, _, _, _, _, hm, _, _, _, _ => by omega
  | m + 1, d + 1, t, ks, as, bs, x, y, r, hm, h, hx, hy, he => by
    unfold eqLay at h
    cases hu : under P t with
    | none => simp [hu] at h
    | some dd =>
      rw [hu] at h
      have scal : aggOf P t = some false → (∃ u, as = [u] ∧ ∀ z, u.toVal = some z → x = z) ∧ ∃ v, bs = [v] ∧ ∀ z, v.toVal = some z → y = z := by
        intro ha
        constructor
        · rcases hx with ⟨h1, _⟩ | ⟨_, h2⟩
          · rw [ha] at h1; cases h1
          · exact h2
        · rcases hy with ⟨h1, _⟩ | ⟨_, h2⟩
          · rw [ha] at h1; cases h1
          · exact h2
      have aggs : aggOf P t = some true → (∃ xs, x = .agg xs ∧ CellsRel as xs) ∧ ∃ ys, y = .agg ys ∧ CellsRel bs ys := by
        intro ha
        constructor
        · rcases hx with ⟨_, h2⟩ | ⟨h1, _⟩
          · exact h2
          · rw [ha] at h1; cases h1
        · rcases hy with ⟨_, h2⟩ | ⟨h1, _⟩
          · exact h2
          · rw [ha] at h1; cases h1
      cases dd <;> simp at h
      case bool =>
        subst h
        obtain ⟨⟨u, rfl, h1⟩, v, rfl, h2⟩ := scal (by simp [aggOf, hu])
        simp only [eqvs, Option.bind_eq_bind, Option.pure_def] at he
        replace he := Option.bind_eq_some_iff.1 he
        obtain ⟨p, hp, he⟩ := he
        cases u <;> cases v <;> simp only [eqv1, reduceCtorEq] at hp
        simp [eqvs] at he hp; subst hp; subst he
        rw [h1 _ rfl, h2 _ rfl]
        exact run_equalIn_bool' w d t _ _ hu
      case int k =>
        subst h
        obtain ⟨⟨u, rfl, h1⟩, v, rfl, h2⟩ := scal (by simp [aggOf, hu])
        simp only [eqvs, Option.bind_eq_bind, Option.pure_def] at he
        replace he := Option.bind_eq_some_iff.1 he
        obtain ⟨p, hp, he⟩ := he
        cases u <;> cases v <;> simp only [eqv1, reduceCtorEq] at hp
        split at hp
        · rename_i hk; obtain ⟨rfl, rfl⟩ := hk
          simp [eqvs] at he hp; subst hp; subst he
          rw [h1 _ rfl, h2 _ rfl]
          exact run_equalIn_int w d t _ _ _ _ hu
        · cases hp
      case string =>
        subst h
        obtain ⟨⟨u, rfl, h1⟩, v, rfl, h2⟩ := scal (by simp [aggOf, hu])
        simp only [eqvs, Option.bind_eq_bind, Option.pure_def] at he
        replace he := Option.bind_eq_some_iff.1 he
        obtain ⟨p, hp, he⟩ := he
        cases u <;> cases v <;> simp only [eqv1, reduceCtorEq] at hp
        simp [eqvs] at he hp; subst hp; subst he
        rw [h1 _ rfl, h2 _ rfl, run_equalIn_string w d t _ _ hu]
        simp
      case array len e =>
        obtain ⟨⟨xs, rfl, h1⟩, ys, rfl, h2⟩ := aggs (by simp [aggOf, hu])
        split at h
        · rename_i mk hl
          split at h
          case isFalse => cases h
          rename_i hs
          cases h
          obtain ⟨b, ha, hb1⟩ := lay_agg m hl
          have hsz := hs
          unfold szOf at hsz
          obtain ⟨inf, hinf, hsz⟩ := Option.map_eq_some_iff.1 hsz
          have hce : P.cellsOf e = mk.length := by simp [Program.cellsOf, hinf, hsz]
          rw [run_equalIn_array w d xs ys hu hinf, hce]
          have key : ∀ (cnt i : Nat) (r : Bool), eqvs (List.replicate cnt mk).flatten (as.drop (i * mk.length)) (bs.drop (i * mk.length)) = some r →
              (Op.eqItems d e mk.length xs ys (List.range' i cnt)).run P w = .ok r w := by
            intro cnt
            induction cnt with
            | zero => intro i r hq; cases hd1 : as.drop (i * mk.length) <;> cases hd2 : bs.drop (i * mk.length) <;> rw [hd1, hd2] at hq <;> first | (cases hq; simp [Op.eqItems]) | cases hq
            | succ cnt ih =>
              intro i r hq
              rw [List.replicate_succ, List.flatten_cons] at hq
              obtain ⟨l1, l2, r1, r2, q1, q2, rfl⟩ := eqvs_append _ _ _ _ _ hq
              rw [List.length_drop, List.length_drop] at l2
              rw [List.length_drop] at l1
              have hle1 : mk.length = 0 ∨ i * mk.length + mk.length ≤ as.length := by omega
              have hA : i * mk.length + mk.length ≤ as.length ∨ mk.length = 0 := hle1.symm
              rw [List.drop_drop, List.drop_drop] at q2
              have e2 : i * mk.length + mk.length = (i + 1) * mk.length := by rw [Nat.add_mul, Nat.one_mul]
              rw [e2] at q2
              have hq2 := ih (i + 1) r2 q2
              rcases Nat.eq_zero_or_pos mk.length with h0 | h0
              · have hb : b = true := by cases b with | true => rfl | false => have := hb1 rfl; omega
                subst hb
                have p1 : (part e xs (i * mk.length)).run P w = .ok (.agg (xs.extract (i * mk.length) (i * mk.length + mk.length))) w := by
                  simp [part, run_aggOf ha, run_size hs]
                have p2 : (part e ys (i * mk.length)).run P w = .ok (.agg (ys.extract (i * mk.length) (i * mk.length + mk.length))) w := by
                  simp [part, run_aggOf ha, run_size hs]
                have hmk : mk = [] := List.eq_nil_of_length_eq_zero h0
                have f1 : Fits P e [] (.agg (xs.extract (i * mk.length) (i * mk.length + mk.length))) := .inl ⟨ha, _, rfl, by simp only [List.length_nil, Array.size_extract, h0]; omega, fun i u y hu => by simp at hu⟩
                have f2 : Fits P e [] (.agg (ys.extract (i * mk.length) (i * mk.length + mk.length))) := .inl ⟨ha, _, rfl, by simp only [List.length_nil, Array.size_extract, h0]; omega, fun i u y hu => by simp at hu⟩
                have q3 := equalIn_run m d e mk [] [] _ _ true (by omega) hl f1 f2 (by rw [hmk]; rfl)
                have hr1 : r1 = true := by rw [hmk] at q1; simp at q1; cases q1; rfl
                simp only [List.range'_succ, Op.eqItems, Sem.run_bind, p1, p2, q3, Result.andThen_ok]
                subst hr1
                simpa using hq2
              · have hle : i * mk.length + mk.length ≤ as.length := by omega
                obtain ⟨x', p1, f1⟩ := part_run (w := w) h1 hle hs ha hb1
                obtain ⟨y', p2, f2⟩ := part_run (w := w) (m := mk.length) (off := i * mk.length) h2 (by omega) hs ha hb1
                have q3 := equalIn_run m d e mk _ _ x' y' r1 (by omega) hl f1 f2 q1
                simp only [List.range'_succ, Op.eqItems, Sem.run_bind, p1, p2, q3, Result.andThen_ok]
                cases r1
                · simp only [Bool.not_false, if_true, Bool.false_and, Sem.run_pure]
                · simpa using hq2
          have := key len 0 r (by simpa using he)
          rw [List.range_eq_range']; exact this
        · cases h
      case struct fs =>
        obtain ⟨⟨xs, rfl, h1⟩, ys, rfl, h2⟩ := aggs (by simp [aggOf, hu])
        obtain ⟨hst, h⟩ := h
        have hfo : P.underlying t = some (.struct (P.fieldsOf t)) := by
          have hu' : P.underlying t = some (.struct fs) := hu
          simp only [Program.fieldsOf, hu']
        have hfs : (P.fieldsOf t) = fs := by
          have hu' : P.underlying t = some (.struct fs) := hu
          simp [Program.fieldsOf, hu']
        rw [run_equalIn_struct w d t xs ys hfo hst, hfs]
        have key : ∀ (l : List Field) (off : Nat) (ks : List CK) (r : Bool), eqFields P (eqLay P m) l off = some ks → eqvs ks (as.drop off) (bs.drop off) = some r →
            (Op.eqFields d xs ys l).run P w = .ok r w := by
          intro l
          induction l with
          | nil => intro off ks r hk hq; cases hk; cases hd1 : as.drop off <;> cases hd2 : bs.drop off <;> rw [hd1, hd2] at hq <;> first | (cases hq; simp [Op.eqFields]) | cases hq
          | cons f l ih =>
            intro off ks r hk hq
            simp only [eqFields] at hk
            split at hk
            · rename_i mk hl
              split at hk
              · rename_i hc
                obtain ⟨hn, rfl, hs⟩ := hc
                obtain ⟨ks', hk', rfl⟩ := Option.map_eq_some_iff.1 hk
                obtain ⟨l1, l2, r1, r2, q1, q2, rfl⟩ := eqvs_append _ _ _ _ _ hq
                rw [List.length_drop, List.length_drop] at l2
                rw [List.length_drop] at l1
                rw [List.drop_drop, List.drop_drop] at q2
                have hq2 := ih _ ks' r2 hk' q2
                obtain ⟨b, ha, hb1⟩ := lay_agg m hl
                rcases Nat.eq_zero_or_pos mk.length with h0 | h0
                · have hb : b = true := by cases b with | true => rfl | false => have := hb1 rfl; omega
                  subst hb
                  have p1 : (part f.type xs f.offset).run P w = .ok (.agg (xs.extract f.offset (f.offset + mk.length))) w := by
                    simp [part, run_aggOf ha, run_size hs]
                  have p2 : (part f.type ys f.offset).run P w = .ok (.agg (ys.extract f.offset (f.offset + mk.length))) w := by
                    simp [part, run_aggOf ha, run_size hs]
                  have hmk : mk = [] := List.eq_nil_of_length_eq_zero h0
                  have f1 : Fits P f.type [] (.agg (xs.extract f.offset (f.offset + mk.length))) := .inl ⟨ha, _, rfl, by simp only [List.length_nil, Array.size_extract, h0]; omega, fun i u y hu => by simp at hu⟩
                  have f2 : Fits P f.type [] (.agg (ys.extract f.offset (f.offset + mk.length))) := .inl ⟨ha, _, rfl, by simp only [List.length_nil, Array.size_extract, h0]; omega, fun i u y hu => by simp at hu⟩
                  have q3 := equalIn_run m d f.type mk [] [] _ _ true (by omega) hl f1 f2 (by rw [hmk]; rfl)
                  have hr1 : r1 = true := by rw [hmk] at q1; simp at q1; cases q1; rfl
                  simp only [Op.eqFields, hn, ne_eq, not_false_eq_true, if_true, Sem.run_bind, p1, p2, q3, Result.andThen_ok]
                  subst hr1
                  simpa using hq2
                · obtain ⟨x', p1, f1⟩ := part_run (w := w) h1 (off := f.offset) (by omega) hs ha hb1
                  obtain ⟨y', p2, f2⟩ := part_run (w := w) h2 (off := f.offset) (by omega) hs ha hb1
                  have q3 := equalIn_run m d f.type mk _ _ x' y' r1 (by omega) hl f1 f2 q1
                  simp only [Op.eqFields, hn, ne_eq, not_false_eq_true, if_true, Sem.run_bind, p1, p2, q3, Result.andThen_ok]
                  cases r1
                  · simp
                  · simpa using hq2
              · cases hk
            · cases hk
        exact key fs.toList 0 ks r h (by simpa using he)
end
end Go.Vq
/- '==' and '!=' as operations; numbers and texts turned into each other; parts of values (no law of Go is stated here). -/
namespace Go.Vq
section
variable {P : Program} {n base : Nat} {E E' : Env} {σ σ' : St} {hs : List V} {ts xs : List Value} {H H' : Array Go.Obj}
variable {callee : Callee} {o : Oper} {a : Act} {w : World} {next : Act → World → Prop} {Q : Exit → Act → World → Prop}

/-- What two values are to each other, by '=='. -/
def EqRun (P : Program) (w : World) (t : TypeId) (x y : Value) (r : Bool) : Prop :=
  ∀ ox oy, ((do eqGuard .eql t ox oy x y; binOp .eql t x y : Sem Value).run P w = .ok (.bool r) w) ∧ (do eqGuard .neq t ox oy x y; binOp .neq t x y : Sem Value).run P w = .ok (.bool !r) w
theorem EqRun.of_equal {t : TypeId} {x y : Value} {r : Bool} (h : (Op.equal t x y).run P w = .ok r w) (hx : (leafX x = true ∧ x ≠ .nilIface) ∨ ((∃ xs ys, x = .agg xs ∧ y = .agg ys) ∧ P.eqGuardType P.depth t = false))
    (hb : ∀ op, (op = .eql → binOp op t x y = (do pure (.bool (← Op.equal t x y)))) ∧ (op = .neq → binOp op t x y = (do pure (.bool (!(← Op.equal t x y)))))) : EqRun P w t x y r := by
  intro ox oy
  have hg : ∀ op, (eqGuard op t ox oy x y).run P w = .ok () w := by
    intro op
    rcases hx with ⟨h1, h2⟩ | ⟨⟨xs, ys, rfl, rfl⟩, h2⟩
    · exact eqGuard_plain h1 h2
    · cases op <;> simp [eqGuard, h2]
  constructor
  · simp only [Sem.run_bind, hg, Result.andThen_ok]
    rw [(hb .eql).1 rfl]; simp [h]
  · simp only [Sem.run_bind, hg, Result.andThen_ok]
    rw [(hb .neq).2 rfl]; simp [h]
theorem relE {slots : List V} {objs : List (Option Obj)} {vals : List Value} {s : Nat} {v : V} {x : Value} (hS : SlotRel E slots objs vals H s v x) :
    (∀ r, v = .ptr r → ∃ ad, x = .pointer (some ad)) ∧ (∀ cs, v = .iptr cs → ∃ ad, x = .pointer (some ad)) ∧ (∀ f cs, v = .func f cs → ∃ ys, x = .func (.func f) #[] ys) ∧ (∀ ob, v = .map ob → ∃ r, x = .map (some r)) := by
  refine ⟨?_, ?_, ?_, ?_⟩
  · rintro r rfl
    obtain ⟨_, hR⟩ := rel_leaf hS rfl (fun g => by simp)
    cases r with
    | obj ob off => exact ⟨_, hR.1⟩
    | elem h g sz i off => obtain ⟨ad, h, _⟩ := hR; exact ⟨ad, h⟩
  · rintro cs rfl
    obtain ⟨_, hR⟩ := rel_leaf hS rfl (fun g => by simp)
    obtain ⟨ad, hp, _⟩ := hR; exact ⟨ad, hp⟩
  · rintro f cs rfl
    obtain ⟨_, hR⟩ := rel_leaf hS rfl (fun g => by simp)
    cases hR with
    | imm _ _ h => cases h
    | func _ _ xs hn h => exact ⟨xs, rfl⟩
  · rintro ob rfl
    obtain ⟨_, hR⟩ := rel_leaf hS rfl (fun g => by simp)
    exact ⟨_, hR.1⟩
theorem cellsRel_of {slots : List V} {objs : List (Option Obj)} {vals : List Value} {s : Nat} {cs : List V} {x : Value} (hS : SlotRel E slots objs vals H s (.agg cs) x) : ∃ xs, x = .agg xs ∧ CellsRel cs xs := by
  obtain ⟨⟨xs, rfl, hl⟩, h⟩ := hS
  refine ⟨xs, rfl, hl, fun i u y hu hy z hz => ?_⟩
  exact relV_toVal (h i u y hu (by simpa [vleaves] using hy)) hz
theorem eqin_ptr1 {t e : TypeId} (d : Nat) (b : Option Addr) (hu : under P t = some (.pointer e)) : (Op.equalIn (d + 1) t (.pointer none) (.pointer b)).run P w = .ok b.isNone w := by
  simp only [Op.equalIn, Sem.run_bind, run_under hu, Result.andThen_ok]; rfl
theorem eqin_ptr2 {t e : TypeId} (d : Nat) (ad : Addr) (hu : under P t = some (.pointer e)) : (Op.equalIn (d + 1) t (.pointer (some ad)) (.pointer none)).run P w = .ok false w := by
  simp only [Op.equalIn, Sem.run_bind, run_under hu, Result.andThen_ok]; rfl
theorem eqin_func0 {t : TypeId} {ps rs : Array TypeId} {vr : Bool} (d : Nat) (hu : under P t = some (.func ps rs vr)) : (Op.equalIn (d + 1) t .nilFunc .nilFunc).run P w = .ok true w := by
  simp only [Op.equalIn, Sem.run_bind, run_under hu, Result.andThen_ok]; rfl
theorem eqin_func1 {t : TypeId} {ps rs : Array TypeId} {vr : Bool} (d : Nat) (f : Fn) (a b : Array Value) (hu : under P t = some (.func ps rs vr)) : (Op.equalIn (d + 1) t .nilFunc (.func f a b)).run P w = .ok false w := by
  simp only [Op.equalIn, Sem.run_bind, run_under hu, Result.andThen_ok]; rfl
theorem eqin_func2 {t : TypeId} {ps rs : Array TypeId} {vr : Bool} (d : Nat) (f : Fn) (a b : Array Value) (hu : under P t = some (.func ps rs vr)) : (Op.equalIn (d + 1) t (.func f a b) .nilFunc).run P w = .ok false w := by
  simp only [Op.equalIn, Sem.run_bind, run_under hu, Result.andThen_ok]; rfl
theorem eqin_map1 {t k e : TypeId} (d : Nat) (b : Option Nat) (hu : under P t = some (.map k e)) : (Op.equalIn (d + 1) t (.map none) (.map b)).run P w = .ok b.isNone w := by
  simp only [Op.equalIn, Sem.run_bind, run_under hu, Result.andThen_ok]; rfl
theorem eqin_map2 {t k e : TypeId} (d r : Nat) (hu : under P t = some (.map k e)) : (Op.equalIn (d + 1) t (.map (some r)) (.map none)).run P w = .ok false w := by
  simp only [Op.equalIn, Sem.run_bind, run_under hu, Result.andThen_ok]; rfl
theorem eqV_run {t : TypeId} {k : EqK} {u v : V} {x y : Value} {r : Bool} {slots : List V} {objs : List (Option Obj)} {vals : List Value} {s s2 : Nat} (hk : eqKind P t = some k)
    (hS : SlotRel E slots objs vals H s u x) (hS2 : SlotRel E slots objs vals H s2 v y) (h : eqV k u v = some r) : EqRun P w t x y r := by
  have hun : ∃ d, under P t = some d := by
    unfold eqKind at hk
    cases hu : under P t with
    | none => rw [hu] at hk; cases hk
    | some d => exact ⟨d, rfl⟩
  obtain ⟨d, hu⟩ := hun
  have hu' : P.underlying t = some d := hu
  unfold eqKind at hk
  rw [hu] at hk
  unfold eqV at h
  split at h
  · -- numbers
    split at h
    · rename_i hkk; subst hkk; cases h
      rw [slot_toVal hS rfl, slot_toVal hS2 rfl]
      intro ox oy
      constructor <;> simp [eqGuard, Go.binOp, Op.intCmp] <;> rfl
    · cases h
  · cases h
    rw [slot_toVal hS rfl, slot_toVal hS2 rfl]
    intro ox oy
    constructor <;> simp [eqGuard, Go.binOp, Op.stringOp]
  · cases h
    rw [slot_toVal hS rfl, slot_toVal hS2 rfl]
    cases d <;> simp at hk
    exact .of_equal (run_equalIn_bool' w 9999 t _ _ hu') (.inl ⟨rfl, by simp⟩) fun op => ⟨fun e => by subst e; rfl, fun e => by subst e; rfl⟩
  · -- cells
    rename_i ks as bs
    have hd : P.eqGuardType P.depth t = false ∧ eqLay P 20 t = some ks := by
      cases d <;> simp at hk <;> exact ⟨hk.1, hk.2⟩
    obtain ⟨xs, rfl, hx⟩ := cellsRel_of hS
    obtain ⟨ys, rfl, hy⟩ := cellsRel_of hS2
    have ha : aggOf P t = some true := by
      simp only [aggOf, hu]
      cases d <;> simp at hk <;> rfl
    exact .of_equal (equalIn_run 20 10000 t ks as bs _ _ r (by omega) hd.2 (.inl ⟨ha, xs, rfl, hx⟩) (.inl ⟨ha, ys, rfl, hy⟩) h) (.inr ⟨⟨xs, ys, rfl, rfl⟩, hd.1⟩) fun op => ⟨fun e => by subst e; rfl, fun e => by subst e; rfl⟩
  all_goals (try (cases h; done))
  all_goals (cases h)
  all_goals (cases d <;> simp at hk)
  case h_5.refl.pointer =>
    rw [slot_toVal hS rfl, slot_toVal hS2 rfl]
    exact .of_equal (eqin_ptr1 9999 _ hu) (.inl ⟨rfl, by simp⟩) fun op => ⟨fun e => by subst e; rfl, fun e => by subst e; rfl⟩
  case h_6.refl.pointer =>
    obtain ⟨ad, e⟩ := (relE hS2).1 _ rfl
    rw [slot_toVal hS rfl, e]
    exact .of_equal (eqin_ptr1 9999 _ hu) (.inl ⟨rfl, by simp⟩) fun op => ⟨fun e => by subst e; rfl, fun e => by subst e; rfl⟩
  case h_7.refl.pointer =>
    obtain ⟨ad, e⟩ := (relE hS).1 _ rfl
    rw [slot_toVal hS2 rfl, e]
    exact .of_equal (eqin_ptr2 9999 _ hu) (.inl ⟨rfl, by simp⟩) fun op => ⟨fun e => by subst e; rfl, fun e => by subst e; rfl⟩
  case h_8.refl.pointer =>
    obtain ⟨ad, e⟩ := (relE hS2).2.1 _ rfl
    rw [slot_toVal hS rfl, e]
    exact .of_equal (eqin_ptr1 9999 _ hu) (.inl ⟨rfl, by simp⟩) fun op => ⟨fun e => by subst e; rfl, fun e => by subst e; rfl⟩
  case h_9.refl.pointer =>
    obtain ⟨ad, e⟩ := (relE hS).2.1 _ rfl
    rw [slot_toVal hS2 rfl, e]
    exact .of_equal (eqin_ptr2 9999 _ hu) (.inl ⟨rfl, by simp⟩) fun op => ⟨fun e => by subst e; rfl, fun e => by subst e; rfl⟩
  case h_10.refl.func =>
    rw [slot_toVal hS rfl, slot_toVal hS2 rfl]
    exact .of_equal (eqin_func0 9999 hu) (.inl ⟨rfl, by simp⟩) fun op => ⟨fun e => by subst e; rfl, fun e => by subst e; rfl⟩
  case h_11.refl.func =>
    obtain ⟨ys, e⟩ := (relE hS2).2.2.1 _ _ rfl
    rw [slot_toVal hS rfl, e]
    exact .of_equal (eqin_func1 9999 _ _ _ hu) (.inl ⟨rfl, by simp⟩) fun op => ⟨fun e => by subst e; rfl, fun e => by subst e; rfl⟩
  case h_12.refl.func =>
    obtain ⟨ys, e⟩ := (relE hS).2.2.1 _ _ rfl
    rw [slot_toVal hS2 rfl, e]
    exact .of_equal (eqin_func2 9999 _ _ _ hu) (.inl ⟨rfl, by simp⟩) fun op => ⟨fun e => by subst e; rfl, fun e => by subst e; rfl⟩
  case h_13.refl.map =>
    rw [slot_toVal hS rfl, slot_toVal hS2 rfl]
    exact .of_equal (eqin_map1 9999 _ hu) (.inl ⟨rfl, by simp⟩) fun op => ⟨fun e => by subst e; rfl, fun e => by subst e; rfl⟩
  case h_14.refl.map =>
    obtain ⟨r, e⟩ := (relE hS2).2.2.2 _ rfl
    rw [slot_toVal hS rfl, e]
    exact .of_equal (eqin_map1 9999 _ hu) (.inl ⟨rfl, by simp⟩) fun op => ⟨fun e => by subst e; rfl, fun e => by subst e; rfl⟩
  case h_15.refl.map =>
    obtain ⟨r, e⟩ := (relE hS).2.2.2 _ rfl
    rw [slot_toVal hS2 rfl, e]
    exact .of_equal (eqin_map2 9999 _ hu) (.inl ⟨rfl, by simp⟩) fun op => ⟨fun e => by subst e; rfl, fun e => by subst e; rfl⟩

/-! ### cells at a place -/
theorem CoreS.objAt (hC : CoreS n E σ hs ts xs H) {ob : Nat} {cs : List V} (ho : σ.obj ob = some (.cells cs)) : ∃ arr T f, H[E.addr ob]? = some (.cells arr T f) ∧ E.tag (E.addr ob) = .obj ob ∧ arr.size = cs.length ∧ open_ f arr.size ∧
    (∀ (i : Nat) (u : V) (y : Value), cs[i]? = some u → arr[i]? = some y → RelV E (σ.slots ++ hs) σ.objs (ts ++ xs) H (.obj ob i) u y) ∧ ∀ u ∈ cs, u.inObj = true := by
  have h1 : σ.objs[ob]? = some (some (.cells cs)) := by
    simp only [St.obj, List.getD] at ho
    cases h : σ.objs[ob]? with
    | none => simp [h] at ho
    | some y => simp [h] at ho; rw [ho]
  exact hC.core.obj ob cs h1
theorem gCells_sound {r : Ref} {m : Nat} {k : List V → Prog} {ad : Addr} {h0 : Home} (hC : CoreS n E σ hs ts xs H) (hx : RelV E (σ.slots ++ hs) σ.objs (ts ++ xs) H h0 (.ptr r) (.pointer (some ad))) (hr : (gCells r m k).run σ = some σ') :
    ∃ cs, (k cs).run σ = some σ' ∧ cs.length = m ∧ ∀ (j : Nat) (u : V), cs[j]? = some u → ∃ y, cellAt H ad.block (ad.off + j) = some y ∧ (∀ h, RelV E (σ.slots ++ hs) σ.objs (ts ++ xs) H h u y) ∧ u.own = false ∧ u.leaf = true ∧
      (∀ r ∈ u.refs1, (∀ t i, r.1 = .slot t i → t < n) ∧ ∃ w, ct (σ.slots ++ hs) σ.objs r.1 = some w ∧ r.2 < w.nextg) := by
  cases r with
  | obj ob off =>
    simp only [gCells, Prog.run] at hr
    split at hr
    · rename_i cs ho
      rw [Prog.run_ite] at hr
      split at hr
      · rename_i hle
        obtain ⟨arr, T, f, h1, h2, h3, h4, h5, h6⟩ := hC.objAt ho
        refine ⟨_, hr, by rw [borrows_len, List.length_take, List.length_drop]; omega, fun j u hu => ?_⟩
        rw [borrows_get] at hu
        obtain ⟨z, hz, rfl⟩ := Option.map_eq_some_iff.1 hu
        obtain ⟨hz1, hz2⟩ := mem_sub hz
        have hlt := lt_of_getElem? hz1
        have hy : arr[off + j]? = some arr[off + j] := by simp; 
        have hR := h5 (off + j) z arr[off + j] hz1 hy
        have hcell : cellAt H (E.addr ob) (off + j) = some arr[off + j] := by simp only [cellAt, h1]; exact hy
        simp only [RelV, Value.pointer.injEq, Option.some.injEq] at hx
        obtain ⟨hx, hal⟩ := hx
        subst hx
        refine ⟨arr[off + j], hcell, fun h => ?_, borrow1_own _ _, borrow1_leaf hR.leaf, fun r hr => ?_⟩
        · rw [Nat.zero_add]; exact borrow1_rel hR hcell
        · rcases borrow1_refs _ _ r hr with h | ⟨h, h'⟩
          · rw [V.inObj_refs1 (h6 z (List.mem_of_getElem? hz1))] at h; cases h
          · refine ⟨fun t i e => (by rw [h] at e; cases e), z, ?_, h'⟩
            rw [h]
            have h7 : σ.objs[ob]? = some (some (.cells cs)) := by
              simp only [St.obj, List.getD] at ho
              cases h : σ.objs[ob]? with
              | none => simp [h] at ho
              | some y => simp [h] at ho; rw [ho]
            simp only [ct, h7, Nat.zero_add]; exact hz1
      · cases hr
    · cases hr
  | elem h g sz i off =>
    simp only [gCells] at hr
    replace hr := gElems_run hr
    obtain ⟨u, own, es, hc, hk, hr⟩ := hr
    have hk' : u = .xsl g sz es ∨ u = .isl g sz es ∨ u = .fsl g sz es := by rcases hk with ⟨h, _⟩ | ⟨h | h, _⟩ <;> simp [h]
    have hg : ∀ g', u ≠ .gone g' := by rintro g' rfl; rcases hk' with h | h | h <;> cases h
    obtain ⟨d4, d5⟩ := ct_real' (n := n) (hs := hs) hC.sl hc hg
    obtain ⟨y', a, cap, f1, f2, _, _, _⟩ := hC.core.homeView d4 hk'
    have hvl : valid (σ.slots ++ hs) σ.objs h g sz := ⟨_, d4, by rcases hk' with h | h | h <;> (rw [h]; rfl)⟩
    obtain ⟨ad', e1, hx⟩ := hx
    cases e1
    obtain ⟨ad0, l, c, e2, e3⟩ := hx hvl
    rw [f1] at e2; cases e2
    have e4 := f2.eq
    injection e4 with e4 _ _
    subst e4
    split at hr
    · rename_i e he
      rw [Prog.run_ite] at hr
      split at hr
      · rename_i hle
        refine ⟨_, hr, by rw [List.length_take, List.length_drop]; omega, fun j u hu => ?_⟩
        obtain ⟨hz1, hz2⟩ := mem_sub hu
        obtain ⟨ad1, y, g1, g2, g3⟩ := f2.elems.2 i e (off + j) u he hz1
        cases g1
        have hlf := (f2.elems.1 e (List.mem_of_getElem? he)).2 u (List.mem_of_getElem? hz1)
        refine ⟨y, ?_, fun h => ?_, ?_, hlf, ?_⟩
        · rw [e3]; simp only; rw [← g2]; congr 1; omega
        · cases g3 <;> first | exact RelI.bool _ | exact RelI.int _ _ | exact RelI.str _ | exact RelI.nil | exact RelI.nilf | exact RelI.nilm | exact RelI.nili | exact RelI.nilS _ | exact RelI.iface _ _ _ ‹_› ‹_› | exact RelI.isl _ _ _ _ _ _ ‹_› ‹_› ‹_› ‹_› ‹_› ‹_› | (simp [V.leaf] at hlf)
        · cases g3 <;> rfl
        · intro r hr; cases g3 <;> cases hr
      · cases hr
    · cases hr
/-- The elements of a slice's value, and the value in the model. -/
theorem gView_sound {v : V} {x : Value} {k : Nat → List V → Prog} {h0 : Home} (hC : CoreS n E σ hs ts xs H) (hR : RelV E (σ.slots ++ hs) σ.objs (ts ++ xs) H h0 v x) (hr : (gView v k).run σ = some σ') :
    ∃ sz es a cap, (k sz es).run σ = some σ' ∧ View E.imm H sz es x a cap := by
  cases v with
  | isl g sz es => obtain ⟨a, cap, hw, _⟩ := View.of_isl hR; exact ⟨sz, es, a, cap, hr, hw⟩
  | xsl g sz es => obtain ⟨a, cap, e1, e2, e3, e4, e5, e6⟩ := hR; exact ⟨sz, es, a, cap, hr, ⟨e1, e2, e3, e4, e6⟩⟩
  | fsl g sz es => obtain ⟨a, cap, e1, e2, e3, e4, e5, e6⟩ := hR; exact ⟨sz, es, a, cap, hr, ⟨e1, e2, e3, e4, e6⟩⟩
  | csl sz es => obtain ⟨a, cap, hw, _⟩ := View.of_isl hR.1; exact ⟨sz, es, a, cap, hr, hw⟩
  | nilS sz => have := relV_toVal hR rfl; subst this; exact ⟨sz, [], none, 0, hr, View.of_nil sz⟩
  | srf h g sz off len =>
    simp only [gView] at hr
    replace hr := gElems_run hr
    obtain ⟨u, own, es, hc, hk, hr⟩ := hr
    rw [Prog.run_ite] at hr
    split at hr
    · rename_i hle
      have hk' : u = .xsl g sz es ∨ u = .isl g sz es ∨ u = .fsl g sz es := by rcases hk with ⟨h, _⟩ | ⟨h | h, _⟩ <;> simp [h]
      have hg : ∀ g', u ≠ .gone g' := by rintro g' rfl; rcases hk' with h | h | h <;> cases h
      obtain ⟨d4, d5⟩ := ct_real' (n := n) (hs := hs) hC.sl hc hg
      obtain ⟨y', a, cap, f1, f2, _, _, _⟩ := hC.core.homeView d4 hk'
      have hvl : valid (σ.slots ++ hs) σ.objs h g sz := ⟨_, d4, by rcases hk' with h | h | h <;> (rw [h]; rfl)⟩
      obtain ⟨a', cap', g1, _⟩ := View.of_srf hR hvl f1 f2 hle
      exact ⟨sz, _, a', cap', hr, g1⟩
    · cases hr
  | asl r len =>
    simp only [gView] at hr
    have hx : ∃ (ad : Addr) (c : Nat), x = .slice (some ad) len c ∧ len ≤ c ∧ RelV E (σ.slots ++ hs) σ.objs (ts ++ xs) H h0 (.ptr r) (.pointer (some ad)) ∧ ad.spot = none := by
      cases r with
      | obj ob off => obtain ⟨c, e1, e2, e3⟩ := hR; exact ⟨_, c, e1, e2, ⟨rfl, e3⟩, rfl⟩
      | elem h g sz i off => obtain ⟨ad, c, e1, e2, es, e3⟩ := hR; exact ⟨ad, c, e1, e2, ⟨ad, rfl, e3⟩, es⟩
    obtain ⟨ad, c, e1, e2, e3, e4⟩ := hx
    obtain ⟨cs, hr2, hl, hcs⟩ := gCells_sound hC e3 hr
    rw [Prog.run_ite] at hr2
    split at hr2
    · rename_i hp
      have hsp := e4
      refine ⟨1, cs, some ad, c, hr2, ⟨by rw [hl]; exact e1, by rw [hl]; exact e2, fun h => (by cases h), fun ad' h _ => (by cases h; exact hsp), ⟨fun e he => ?_, fun i e j v hi hj => ?_⟩⟩⟩
      · have := plain_leaf (List.all_eq_true.1 hp e he)
        rw [elemOk, cells_leaf this.1]; simp [this.1]
      · have hpl := List.all_eq_true.1 hp e (List.mem_of_getElem? hi)
        rw [cells_leaf (plain_leaf hpl).1] at hj
        cases j with
        | zero =>
          simp at hj; subst hj
          obtain ⟨y, y1, y2, _⟩ := hcs i e hi
          exact ⟨ad, y, rfl, by rw [← y1]; congr 1; omega, (relV_plain hpl).1 (y2 h0)⟩
        | succ j => simp at hj
    · cases hr2
  | _ => cases hr
theorem op_eq {neg : Bool} {k : EqK} {t t' : TypeId} {x y : Operand} {x' y' : Opd} (ho : o.op = .binOp (if neg then .neq else .eql) t x y t') (hk : eqKind P t = some k) (hx : opd P t x = some x') (hy : opd P t y = some y') (hC : CoreS n E σ [] a.tmps.toList [] w.heap)
    (hr : (opProg callee base o.dst (.eq neg k x' y')).run σ = some σ') (K : NextOk n base E σ' a w next) : o.upon P a next Q ((execOp a.eval o).run P w) := by
  have hex : ∀ r, EqRun P w t (a.eval x) (a.eval y) r → (execOp a.eval o).run P w = .ok (.value (.bool (if neg then !r else r))) w := by
    intro r h
    obtain ⟨h1, h2⟩ := h x y
    cases neg
    · simp only [execOp, ho, Bool.false_eq_true, if_false]
      simp only [Sem.run_bind, h1, Result.andThen_ok, Sem.run_pure]
    · simp only [execOp, ho, if_true]
      simp only [Sem.run_bind, h2, Result.andThen_ok, Sem.run_pure]
  by_cases hks : k = .slice
  · subst hks
    have hr' : (gOpd x' fun a => gOpd y' fun
      | .nilS _ => gView a fun _ es => (match es with | _ :: _ => putO o.dst (.bool neg) .ret | [] => .fail)
      | _ => .fail).run σ = some σ' := hr
    obtain ⟨u, hr1, ⟨s, hS, _⟩, _⟩ := opd_rel (v := .nil) hC (opd_ok a hx) hr'
    obtain ⟨v, hr2, ⟨s2, hS2, _⟩, _⟩ := opd_rel (v := .nil) hC (opd_ok a hy) hr1
    obtain ⟨hp, hk2⟩ : (∃ z, v = .nilS z) ∧ True := by cases v <;> first | exact ⟨⟨_, rfl⟩, trivial⟩ | cases hr2
    obtain ⟨z, rfl⟩ := hp
    have hey := slot_toVal hS2 rfl
    have hul : u.leaf = true ∧ (∀ g, u ≠ .gone g) := by
      constructor
      · cases u <;> first | rfl | cases hr2
      · rintro g rfl; cases hr2
    obtain ⟨hlx, hR⟩ := rel_leaf hS hul.1 hul.2
    obtain ⟨sz, es, a', cap, hr3, hw⟩ := gView_sound hC hR hr2
    split at hr3
    · rename_i e es'
      have hne : ∃ ad, a' = some ad := by
        cases ha : a' with
        | some ad => exact ⟨ad, rfl⟩
        | none => have := hw.nil ha; have := hw.le; simp at this; omega
      obtain ⟨ad, rfl⟩ := hne
      have hun : ∃ e, under P t = some (.slice e) := by
        unfold eqKind at hk
        cases hu : under P t with
        | none => rw [hu] at hk; cases hk
        | some d => rw [hu] at hk; cases d <;> simp at hk; exact ⟨_, rfl⟩
      obtain ⟨et, hu⟩ := hun
      have hx2 := hw.eq
      refine plain_end hC rfl hr3 K ?_
      have := hex false (.of_equal (by rw [hx2, hey]; exact run_equal_slice_nil w t et _ _ _ hu) (.inl ⟨hlx, by rw [hx2]; simp⟩) fun op => ⟨fun e => by subst e; rw [hx2, hey]; rfl, fun e => by subst e; rw [hx2, hey]; rfl⟩)
      rw [this]; cases neg <;> rfl
    · cases hr3
  · have hr' : (gOpd x' fun a => gOpd y' fun b => optV ((eqV k a b).map fun r => .bool (if neg then !r else r)) fun v => putO o.dst v .ret).run σ = some σ' := by
      cases k <;> first | exact hr | exact absurd rfl hks
    obtain ⟨u, hr1, ⟨s, hS, _⟩, _⟩ := opd_rel (v := .nil) hC (opd_ok a hx) hr'
    obtain ⟨v, hr2, ⟨s2, hS2, _⟩, _⟩ := opd_rel (v := .nil) hC (opd_ok a hy) hr1
    obtain ⟨r, hb, hr3⟩ := optV_run hr2
    obtain ⟨q, hq, rfl⟩ := Option.map_eq_some_iff.1 hb
    exact plain_end hC rfl hr3 K (hex q (eqV_run hk hS hS2 hq))
end
end Go.Vq
/- Fields, texts, numbers: the plainer operations (no law of Go is stated here). -/
namespace Go.Vq
section
variable {P : Program} {n base : Nat} {E E' : Env} {σ σ' : St} {hs : List V} {ts xs : List Value} {H H' : Array Go.Obj}
variable {callee : Callee} {o : Oper} {a : Act} {w : World} {next : Act → World → Prop} {Q : Exit → Act → World → Prop}

theorem relI_leafX {imm : Nat → Nat → Prop} {v : V} {x : Value} (h : RelI imm H v x) (hl : v.leaf = true) : leafX x = true := by
  cases h <;> first | rfl | simp [V.leaf] at hl
theorem relC_leafX {v : V} {x : Value} {objs : List (Option Obj)} (h : RelC E objs H v x) (hl : v.leaf = true) : leafX x = true := by
  cases h with
  | imm _ _ h _ => exact relI_leafX h hl
  | _ => rfl
theorem relV_leafX {slots : List V} {objs : List (Option Obj)} {vals : List Value} {h : Home} {v : V} {x : Value} (hR : RelV E slots objs vals H h v x) (hg : ∀ g, v ≠ .gone g) : leafX x = true := by
  cases v with
  | gone g => exact absurd rfl (hg g)
  | agg _ => cases hR
  | tup _ => cases hR
  | xsl => obtain ⟨a, c, e, _⟩ := hR; subst e; rfl
  | fsl => obtain ⟨a, c, e, _⟩ := hR; subst e; rfl
  | csl => obtain ⟨_, a, e⟩ := hR; subst e; rfl
  | srf => obtain ⟨a, c, e, _⟩ := hR; subst e; rfl
  | iptr => obtain ⟨a, e, _⟩ := hR; subst e; rfl
  | func => exact relC_leafX hR rfl
  | map => obtain ⟨e, _⟩ := hR; subst e; rfl
  | ptr r => cases r with
    | obj => obtain ⟨e, _⟩ := hR; subst e; rfl
    | elem => obtain ⟨a, e, _⟩ := hR; subst e; rfl
  | asl r => cases r with
    | obj => obtain ⟨a, e, _⟩ := hR; subst e; rfl
    | elem => obtain ⟨a, c, e, _⟩ := hR; subst e; rfl
  | _ => exact relI_leafX hR rfl
/-- What leans on nothing that is not there. -/
def RefsOk (n : Nat) (slots : List V) (objs : List (Option Obj)) (l : List (Home × Nat)) : Prop :=
  ∀ r ∈ l, (∀ t i, r.1 = .slot t i → t < n) ∧ ∃ u, ct slots objs r.1 = some u ∧ r.2 < u.nextg
/-- A leaf that owns nothing is taken in hand. -/
theorem CoreS.pushLeaf (hC : CoreS n E σ hs ts xs H) {h : Home} {v : V} {x : Value} (hl : v.leaf = true) (ho : v.own = false) (hR : RelV E (σ.slots ++ hs) σ.objs (ts ++ xs) H h v x)
    (hf : RefsOk n (σ.slots ++ hs) σ.objs v.refs1) : CoreS n E σ (hs ++ [v]) ts (xs ++ [x]) H := by
  refine hC.push (by rw [leaves_leaf hl]; simp [ho]) ⟨?_, fun i u y hu hy => ?_⟩ (by rw [V.refs, leaves_leaf hl]; simp only [List.flatMap_cons, List.flatMap_nil, List.append_nil]; exact hf)
  · by_cases hg : ∃ g, v = .gone g
    · obtain ⟨g, rfl⟩ := hg; trivial
    · exact shape_leaf hl (relV_leafX hR fun g e => hg ⟨g, e⟩)
  · by_cases hg : ∃ g, v = .gone g
    · obtain ⟨g, rfl⟩ := hg
      cases i with
      | zero => simp [V.leaves] at hu; subst hu; trivial
      | succ i => simp [V.leaves] at hu
    · have hx := relV_leafX hR fun g e => hg ⟨g, e⟩
      rw [leaves_leaf hl] at hu; rw [vleaves_leaf hx] at hy
      cases i with
      | zero =>
        simp at hu hy; subst hu hy
        exact hR.move (fun _ _ h => ⟨h, rfl⟩) (fun h => by rw [ho] at h; cases h) (fun h => by rw [ho] at h; cases h) (fun _ _ h => ⟨rfl, h⟩) (fun _ _ _ _ h => ⟨rfl, h⟩) fun _ _ _ h => ⟨h, rfl⟩
      | succ i => simp at hu
/-- Cells that own nothing are taken in hand as one value. -/
theorem CoreS.pushCells (hC : CoreS n E σ hs ts xs H) {cs : List V} {ys : List Value} (hl : cs.length = ys.length)
    (hcs : ∀ (j : Nat) (u : V) (y : Value), cs[j]? = some u → ys[j]? = some y → (∃ h, RelV E (σ.slots ++ hs) σ.objs (ts ++ xs) H h u y) ∧ u.own = false ∧ u.leaf = true ∧ RefsOk n (σ.slots ++ hs) σ.objs u.refs1)
    {agg : Bool} {v : V} (hv : ofCells agg cs = some v) : CoreS n E σ (hs ++ [v]) ts (xs ++ [if agg then .agg ys.toArray else ys.headD undef]) H ∧ (agg = false → cs.length = 1) := by
  cases agg with
  | true =>
    simp only [ofCells, if_true, Option.some.injEq] at hv
    subst hv
    refine ⟨hC.push ?_ ⟨⟨ys.toArray, rfl, by simpa using hl⟩, fun i u y hu hy => ?_⟩ ?_, fun h => (by cases h)⟩
    · intro u hu
      obtain ⟨i, hi, rfl⟩ := List.getElem_of_mem hu
      exact (hcs i _ _ (List.getElem?_eq_getElem hi) (List.getElem?_eq_getElem (hl ▸ hi))).2.1
    · obtain ⟨⟨h, hR⟩, ho, _⟩ := hcs i u y hu (by simpa [vleaves] using hy)
      exact hR.move (fun _ _ h => ⟨h, rfl⟩) (fun h => by rw [ho] at h; cases h) (fun h => by rw [ho] at h; cases h) (fun _ _ h => ⟨rfl, h⟩) (fun _ _ _ _ h => ⟨rfl, h⟩) fun _ _ _ h => ⟨h, rfl⟩
    · intro r hr
      simp only [V.refs, V.leaves, List.mem_flatMap] at hr
      obtain ⟨u, hu, hr⟩ := hr
      obtain ⟨i, hi, rfl⟩ := List.getElem_of_mem hu
      exact (hcs i _ _ (List.getElem?_eq_getElem hi) (List.getElem?_eq_getElem (hl ▸ hi))).2.2.2 r hr
  | false =>
    simp only [ofCells, Bool.false_eq_true, if_false] at hv
    split at hv
    · cases hv
      cases ys with
      | nil => simp at hl
      | cons y ys =>
        obtain ⟨⟨h, hR⟩, ho, hlf, hf⟩ := hcs 0 _ y rfl rfl
        exact ⟨hC.pushLeaf hlf ho hR hf, fun _ => rfl⟩
    · cases hv

theorem op_indexStr {t : TypeId} {x i : Operand} {x' i' : Opd} (ho : o.op = .index t x i) (ht : under P t = some .string) (hx : opd0 x = some x') (hi : opd0 i = some i') (hC : CoreS n E σ [] a.tmps.toList [] w.heap)
    (hr : (opProg callee base o.dst (.indexStr x' i')).run σ = some σ') (K : NextOk n base E σ' a w next) : o.upon P a next Q ((execOp a.eval o).run P w) := by
  obtain ⟨kk, m, hm, hr⟩ := gInt_sound hC (opd0_ok a hi) hr
  obtain ⟨u, hr, ⟨s, hS, hs'⟩, hrest⟩ := opd_rel (v := .nil) hC (opd0_ok a hx) hr
  clear hrest hs'
  split at hr
  · rename_i l
    have e := slot_toVal (y := .string ⟨l.toArray⟩) hS rfl
    rw [Prog.run_ite] at hr
    split at hr
    · rename_i h0
      split at hr
      · rename_i b hb
        refine plain_end hC (y := .int .u8 b.toNat) rfl hr K ?_
        have hb' : (⟨l.toArray⟩ : ByteArray)[m.toNat]? = some b := by
          have hlt := lt_of_getElem? hb
          rw [List.getElem?_eq_getElem hlt] at hb
          cases hb
          rw [getElem?_pos (⟨l.toArray⟩ : ByteArray) m.toNat (by simpa [ByteArray.size] using hlt)]
          simp [ByteArray.getElem_eq_getElem_data]
        simp [execOp, ho, e, hm, Instr.index, asIntOf, run_under ht, h0, hb']
      · cases hr
    · cases hr
  · cases hr
theorem op_iface {t : TypeId} {x : Operand} {x' : Opd} (ho : o.op = .makeInterface t x) (ht : ∃ d, under P t = some d ∧ ∀ ms, d ≠ .interface ms) (hx : opd P t x = some x') (hC : CoreS n E σ [] a.tmps.toList [] w.heap)
    (hr : (opProg callee base o.dst (.iface t x')).run σ = some σ') (K : NextOk n base E σ' a w next) : o.upon P a next Q ((execOp a.eval o).run P w) := by
  obtain ⟨u, hr, ⟨s, hS, _⟩, _⟩ := opd_rel (v := .nil) hC (opd_ok a hx) hr
  rw [Prog.run_ite] at hr
  split at hr
  · rename_i hp
    obtain ⟨y, hy⟩ := plain_toVal hp
    have e := slot_toVal hS hy
    obtain ⟨d, hd, hd'⟩ := ht
    refine value_end (hC.pushLeaf (h := .slot 0 0) (v := .iface t u) (x := .iface t y) rfl rfl (RelI.iface _ _ _ hp (toVal_rel hy _ _)) (by intro r hr; cases hr)) (Grow.refl _ _ _) (WSame.refl _) hr K ?_
    simp only [execOp, ho, e, Instr.makeInterface]
    cases d <;> first | exact absurd rfl (hd' _) | simp [run_under hd]
  · cases hr
end
end Go.Vq
