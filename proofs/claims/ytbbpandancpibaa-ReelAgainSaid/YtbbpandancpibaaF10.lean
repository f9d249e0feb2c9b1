/- A machine of values and its tie to the model, and runs of it: part 10 of 18 (no law of Go is stated here). -/
import Derived.Test.YtbbpandancpibaaF9
import Derived.RangeFuncBox
import Derived.RangeFuncCalls
import Derived.RangeFuncWrites
import Derived.Scope
set_option linter.unusedVariables false
set_option linter.unusedSimpArgs false
set_option linter.unusedSectionVars false
namespace Go.Vq
section
variable {P : Program} {n base : Nat} {E E' E2 : Env} {σ σ' : St} {hs : List V} {ts xs : List Value} {H H' H2 : Array Go.Obj} {keep ids : List Nat}
theorem rebSlots_get : ∀ (vs : List V) (j i : Nat), (rebSlots keep ids σ j vs)[i]? = (vs[i]?).map fun v => if keep.contains (j + i) then v.withLeaves (v.leaves.map (reb1 keep ids σ)) else .gone 0
  | [], j, i => by simp [rebSlots]
  | v :: vs, j, 0 => by simp [rebSlots]
  | v :: vs, j, i + 1 => by
    simp only [rebSlots, List.getElem?_cons_succ]
    rw [rebSlots_get vs (j + 1) i, show j + 1 + i = j + (i + 1) by omega]
theorem rebSlots_len : ∀ (vs : List V) (j : Nat), (rebSlots keep ids σ j vs).length = vs.length
  | [], j => rfl
  | v :: vs, j => by simp [rebSlots, rebSlots_len]
theorem reb1_leaf {u : V} (h : u.leaf = true) : (reb1 keep ids σ u).leaf = true := by
  cases u <;> first
    | (simp [V.leaf] at h; done)
    | rfl
    | (simp only [reb1]; split <;> rfl)
    | (rename_i r; cases r <;> simp only [reb1] <;> split <;> rfl)
    | (rename_i r l; cases r <;> simp only [reb1] <;> split <;> rfl)
theorem reb1_inObj {u : V} (h : u.inObj = true) : (reb1 keep ids σ u).inObj = true := by
  cases u <;> first
    | (simp [V.inObj] at h; done)
    | exact h
    | rfl
    | (simp only [reb1]; split <;> rfl)
    | (rename_i r; cases r <;> first | (simp [V.inObj] at h; done) | (simp only [reb1]; split <;> rfl))
def rebSt (keep ids : List Nat) (σ : St) : St := { slots := rebSlots keep ids σ 0 σ.slots, objs := σ.objs.mapIdx fun i x => if ids.contains i then rebObj keep ids σ x else none }
theorem rebSt_obj {o : Nat} {x : Option Obj} (h : σ.objs[o]? = some x) : (rebSt keep ids σ).objs[o]? = some (if ids.contains o then rebObj keep ids σ x else none) := by
  simp only [rebSt, List.getElem?_mapIdx, h, Option.map_some]
theorem reb_alive {o : Nat} (h : alive σ.objs o) (hi : ids.contains o = true) : alive (rebSt keep ids σ).objs o := by
  obtain ⟨x, hx⟩ := h
  have := rebSt_obj (keep := keep) (ids := ids) hx
  rw [if_pos hi] at this
  cases x with
  | cells cs => exact ⟨_, this⟩
  | map es => exact ⟨_, this⟩
theorem homeOk_ct (hC : CoreS n E σ [] ts [] H) {h : Home} {g : Nat} (hk : homeOk keep ids σ h g = true) : ∃ w, ct σ.slots σ.objs h = some w ∧ (∃ sz es, w = .xsl g sz es ∨ w = .isl g sz es ∨ w = .fsl g sz es) ∧ ct (rebSt keep ids σ).slots (rebSt keep ids σ).objs h = some (reb1 keep ids σ w) := by
  have hat : ∀ {x : Option V}, (match x with | some (.xsl g' _ _) | some (.isl g' _ _) | some (.fsl g' _ _) => g' == g | _ => false) = true → ∃ w, x = some w ∧ ∃ sz es, w = .xsl g sz es ∨ w = .isl g sz es ∨ w = .fsl g sz es := by
    intro x hx
    split at hx <;> first
      | (cases hx; done)
      | (simp only [beq_iff_eq] at hx; subst hx; exact ⟨_, rfl, _, _, .inl rfl⟩)
      | (simp only [beq_iff_eq] at hx; subst hx; exact ⟨_, rfl, _, _, .inr (.inl rfl)⟩)
      | (simp only [beq_iff_eq] at hx; subst hx; exact ⟨_, rfl, _, _, .inr (.inr rfl)⟩)
  cases h with
  | slot s off =>
    simp only [homeOk, Bool.and_eq_true] at hk
    obtain ⟨w, hw, hf⟩ := hat hk.2
    refine ⟨w, hw, hf, ?_⟩
    have hs : s < n := by
      rcases Nat.lt_or_ge s n with h | h
      · exact h
      · rw [hC.slotBig (by omega)] at hw
        cases off with
        | zero => simp [V.leaves] at hw; subst hw; obtain ⟨_, _, h | h | h⟩ := hf <;> cases h
        | succ i => simp [V.leaves] at hw
    have hS := hC.slotRel hs
    obtain ⟨v, hv⟩ := exists_getElem? (l := σ.slots) (i := s) (hC.sl ▸ hs)
    have e : σ.slot s = v := getD_of_getElem? hv
    rw [e] at hw hS
    have hg := rebSlots_get (keep := keep) (ids := ids) (σ := σ) σ.slots 0 s
    rw [hv, Nat.zero_add] at hg
    simp only [Option.map_some, hk.1, if_true] at hg
    simp only [ct, rebSt, List.getD_eq_getElem?_getD, hg, Option.getD_some]
    rw [withLeaves_leaves hS.formed (by simp) (fun u hu => by
      obtain ⟨u0, hu0, rfl⟩ := List.mem_map.1 hu
      exact reb1_leaf (hS.leafs u0 hu0)), List.getElem?_map, hw]
    rfl
  | obj o off =>
    simp only [homeOk, Bool.and_eq_true] at hk
    obtain ⟨hi, hk⟩ := hk
    split at hk
    · rename_i cs ho
      obtain ⟨w, hw, hf⟩ := hat hk
      have ho' := obj_some ho
      have := rebSt_obj (keep := keep) (ids := ids) ho'
      rw [if_pos hi] at this
      refine ⟨w, by simp only [ct, ho']; exact hw, hf, ?_⟩
      simp only [ct, this, rebObj, List.getElem?_map, hw]; rfl
    · cases hk
theorem homeOk_valid (hC : CoreS n E σ [] ts [] H) {h : Home} {g sz : Nat} (hk : homeOk keep ids σ h g = true) (hv : valid (rebSt keep ids σ).slots (rebSt keep ids σ).objs h 0 sz) : valid σ.slots σ.objs h g sz := by
  obtain ⟨w, h1, ⟨sz', es, hf⟩, h2⟩ := homeOk_ct hC hk
  obtain ⟨w', h3, h4⟩ := hv
  rw [h2] at h3; cases h3
  refine ⟨w, h1, ?_⟩
  rcases hf with rfl | rfl | rfl <;> (simp only [reb1, V.gen?, Option.some.injEq, Prod.mk.injEq] at h4 ⊢; exact ⟨trivial, h4.2⟩)
theorem reb1_rel (hC : CoreS n E σ [] ts [] H) {h : Home} {u : V} {y : Value} (hR : RelV E σ.slots σ.objs ts H h u y) : RelV E (rebSt keep ids σ).slots (rebSt keep ids σ).objs ts H h (reb1 keep ids σ u) y := by
  cases u <;> first | exact hR.elim | skip
  case srf hh g sz off len =>
    simp only [reb1]
    split
    · rename_i hk
      obtain ⟨a', c', e1, e2, e3, e4, e5⟩ := hR
      exact ⟨a', c', e1, e2, e3, e4, fun hvl => e5 (homeOk_valid hC hk hvl)⟩
    · trivial
  case ptr r =>
    cases r with
    | obj o off =>
      simp only [reb1]
      split
      · rename_i hi
        exact ⟨hR.1, reb_alive hR.2 hi⟩
      · trivial
    | elem hh g sz i off =>
      simp only [reb1]
      split
      · rename_i hk
        obtain ⟨ad', e1, e2⟩ := hR
        exact ⟨ad', e1, fun hvl => e2 (homeOk_valid hC hk hvl)⟩
      · trivial
  case asl r len =>
    cases r with
    | obj o off =>
      simp only [reb1]
      split
      · rename_i hi
        obtain ⟨c, e1, e2, e3⟩ := hR
        exact ⟨c, e1, e2, reb_alive e3 hi⟩
      · trivial
    | elem hh g sz i off =>
      simp only [reb1]
      split
      · rename_i hk
        obtain ⟨ad', c', e1, e2, e3, e4⟩ := hR
        exact ⟨ad', c', e1, e2, e3, fun hvl => e4 (homeOk_valid hC hk hvl)⟩
      · trivial
  case map o =>
    simp only [reb1]
    split
    · rename_i hi
      exact ⟨hR.1, reb_alive hR.2 hi⟩
    · trivial
  case func f cs =>
    simp only [reb1]
    split
    · rename_i hi
      exact RelC.mono (fun _ _ h => ⟨h, rfl⟩) hR (fun o ho hal => ⟨rfl, reb_alive hal (List.all_eq_true.1 hi o ho)⟩)
    · trivial
  case nilS sz =>
    have e := relV_toVal hR rfl
    subst e
    exact ⟨none, 0, rfl, Nat.le_refl _, fun _ => rfl, fun _ h => (by cases h), fun h => absurd rfl h, Elems.nil _ _ _ _⟩
  case isl g sz es =>
    simp only [RelV, reb1] at hR ⊢
    cases hR with
    | isl _ _ _ a cap xs hc ha hsp hz hx h => exact .isl _ _ _ a cap xs hc ha hsp hz hx h
  all_goals exact hR
theorem reb_sound (hC : CoreS n E σ [] ts [] H) : CoreS n E (rebSt keep ids σ) [] ts [] H := by
  have h0 := hC.core
  simp only [List.append_nil] at h0
  have hsl : (rebSt keep ids σ).slots.length = n := by simp only [rebSt, rebSlots_len]; exact hC.sl
  refine ⟨hsl, hC.tl, ?_⟩
  simp only [List.append_nil]
  have hget : ∀ (s : Nat) (v' : V), (rebSt keep ids σ).slots[s]? = some v' → ∃ v, σ.slots[s]? = some v ∧ ((keep.contains s = true ∧ v' = v.withLeaves (v.leaves.map (reb1 keep ids σ))) ∨ v' = .gone 0) := by
    intro s v' hv'
    simp only [rebSt, rebSlots_get, Nat.zero_add] at hv'
    obtain ⟨v, hv, e⟩ := Option.map_eq_some_iff.1 hv'
    refine ⟨v, hv, ?_⟩
    split at e
    · exact .inl ⟨by assumption, e.symm⟩
    · exact .inr e.symm
  have hlv : ∀ (s : Nat) (v : V), σ.slots[s]? = some v → (v.withLeaves (v.leaves.map (reb1 keep ids σ))).leaves = v.leaves.map (reb1 keep ids σ) ∧ v.formed ∧ ∀ u ∈ v.leaves.map (reb1 keep ids σ), u.leaf = true := by
    intro s v hv
    obtain ⟨x, hx⟩ := exists_getElem? (l := ts) (i := s) (by have := lt_of_getElem? hv; rw [hC.tl, ← hC.sl]; exact this)
    have hS := h0.slot s v x hv hx
    have hlf : ∀ u ∈ v.leaves.map (reb1 keep ids σ), u.leaf = true := by
      intro u hu
      obtain ⟨u0, hu0, rfl⟩ := List.mem_map.1 hu
      exact reb1_leaf (hS.leafs u0 hu0)
    exact ⟨withLeaves_leaves hS.formed (by simp) hlf, hS.formed, hlf⟩
  refine ⟨by rw [hsl, hC.tl], by rw [hsl]; exact Nat.le_refl _, fun s v' x hv' hx => ?_, fun o cs' ho' => ?_, h0.fresh, fun s v' hv' q hq => ?_⟩
  · obtain ⟨v, hv, ⟨_, rfl⟩ | rfl⟩ := hget s v' hv'
    · have hS := h0.slot s v x hv hx
      obtain ⟨l1, l2, l3⟩ := hlv s v hv
      refine ⟨?_, fun i u y hu hy => ?_⟩
      · by_cases hg : ∃ g, v = .gone g
        · obtain ⟨g, rfl⟩ := hg; trivial
        · exact withLeaves_shape l2 (by simp) l3 hS.1 (fun g e => hg ⟨g, e⟩)
      · rw [l1, List.getElem?_map] at hu
        obtain ⟨u0, hu0, rfl⟩ := Option.map_eq_some_iff.1 hu
        exact reb1_rel hC (hS.2 i u0 y hu0 hy)
    · exact ⟨trivial, fun i u y hu _ => by
        cases i with
        | zero => simp [V.leaves] at hu; subst hu; trivial
        | succ i => simp [V.leaves] at hu⟩
  · simp only [rebSt, List.getElem?_mapIdx] at ho'
    obtain ⟨x, hx, e⟩ := Option.map_eq_some_iff.1 ho'
    split at e
    · cases x with
      | none => cases e
      | some x =>
        cases x with
        | map => cases e
        | cells cs =>
          simp only [rebObj, Option.some.injEq, Obj.cells.injEq] at e
          subst e
          obtain ⟨arr, T, f, g1, g2, g3, g4, g5, g6⟩ := h0.obj o cs hx
          refine ⟨arr, T, f, g1, g2, by simpa using g3, g4, fun i u y hu hy => ?_, fun u hu => ?_⟩
          · rw [List.getElem?_map] at hu
            obtain ⟨u0, hu0, rfl⟩ := Option.map_eq_some_iff.1 hu
            exact reb1_rel hC (g5 i u0 y hu0 hy)
          · obtain ⟨u0, hu0, rfl⟩ := List.mem_map.1 hu
            exact reb1_inObj (g6 u0 hu0)
    · cases e
  · obtain ⟨v, hv, ⟨_, rfl⟩ | rfl⟩ := hget s v' hv'
    · obtain ⟨l1, l2, l3⟩ := hlv s v hv
      rw [refs_of_leaves l1, List.mem_flatMap] at hq
      obtain ⟨u, hu, hq⟩ := hq
      obtain ⟨u0, hu0, rfl⟩ := List.mem_map.1 hu
      have key : ∀ hh g, (hh, g) ∈ u0.refs1 → homeOk keep ids σ hh g = true → q = (hh, 0) → (∀ t i, q.1 = .slot t i → t < n) ∧ ∃ w, ct (rebSt keep ids σ).slots (rebSt keep ids σ).objs q.1 = some w ∧ q.2 < w.nextg := by
        intro hh g h1 h2 h3
        subst h3
        have hrf := h0.refs s v hv (hh, g) (by rw [V.refs, List.mem_flatMap]; exact ⟨u0, hu0, h1⟩)
        obtain ⟨w, w1, ⟨sz, es, w2⟩, w3⟩ := homeOk_ct hC h2
        refine ⟨hrf.1, _, w3, ?_⟩
        rcases w2 with rfl | rfl | rfl <;> simp [reb1, V.nextg]
      cases u0 <;> first
        | (simp [reb1, V.refs1] at hq; done)
        | (simp only [reb1] at hq; split at hq <;> simp [V.refs1] at hq; done)
        | skip
      case srf hh g sz off len =>
        simp only [reb1] at hq
        split at hq
        · exact key hh g (by simp [V.refs1]) (by assumption) (by simpa [V.refs1] using hq)
        · simp [V.refs1] at hq
      case ptr r =>
        cases r with
        | obj o off => simp only [reb1] at hq; split at hq <;> simp [V.refs1] at hq
        | elem hh g sz i off =>
          simp only [reb1] at hq
          split at hq
          · exact key hh g (by simp [V.refs1]) (by assumption) (by simpa [V.refs1] using hq)
          · simp [V.refs1] at hq
      case asl r len =>
        cases r with
        | obj o off => simp only [reb1] at hq; split at hq <;> simp [V.refs1] at hq
        | elem hh g sz i off =>
          simp only [reb1] at hq
          split at hq
          · exact key hh g (by simp [V.refs1]) (by assumption) (by simpa [V.refs1] using hq)
          · simp [V.refs1] at hq
    · simp [V.refs, V.leaves, V.refs1] at hq
theorem rebase_sound {keep : Option (List Nat)} (hC : CoreS n E σ [] ts [] H) : CoreS n E (rebase? keep base σ) [] ts [] H := by
  cases keep with
  | none => exact hC
  | some keep => exact reb_sound (keep := keep) (ids := keptObjs keep σ base) hC
end
end Go.Vq
namespace Go.Vq
open Go.RowKit
section
variable {F : Fence} {n : Nat} {P : Program} {w : World}
def IterGives (F : Fence) (n : Nat) (P : Program) (g : Nat) (lb : Array Value) (enc : Nat → Array Value) (N : Nat) (Kp : World → World → Prop) (w : World) : Prop :=
  ∀ (l : Nat) (J Jx : Nat → World → Prop) (W : World), Kp w W → (∀ k W1, J k W1 → J k W1.drew) →
    (∀ k W1, J k W1 → k < N → YieldAt F (n - 1) P l (enc k) W1 fun e W' =>
      (e = .returned (.bool true) ∧ J (k + 1) W' ∧ Kp W1 W') ∨ (e = .returned (.bool false) ∧ Jx k W')) →
    J 0 W →
    CallsIn F n P g (#[.func (.yield l) #[] #[]] ++ lb) W fun e W' => (∃ v, e = .returned v) ∧ (J N W' ∨ ∃ k, Jx k W')
def rangeEnd (B : Nat) (Kp : World → World → Prop) (I : Nat → World → Prop) (Ix : Code → World → Prop) (k : Nat) (W : World) : Exit → Act → World → Prop
  | .normal, _, W' => KeepsFrom B W W' ∧ Kp W W' ∧ I (k + 1) W'
  | .ret, _, W' => KeepsFrom B W W' ∧ Ix .ret W'
  | .exit id, _, W' => KeepsFrom B W W' ∧ Ix (.exit id) W'
  | _, _, _ => False
def Turns (B : Nat) (I : World → Prop) : Prop := ∀ (W : World) (l : Nat) (o o' : Go.Obj), B ≤ l → I W → W.heap[l]? = some o → o.isCells = false → o'.isCells = false → I (W.putObj l o')
theorem wpIn_range {g : Operand} {ps : Array Tmp} {assign body : Code} {Q : Exit → Act → World → Prop} {a : Act}
    (hro : F.round = none) (h1 : 1 ≤ n) {gf : Nat} {lb : Array Value} (hg : a.eval g = .func (.func gf) #[] lb) (hFg : F.fn gf) (eg : ∀ args w, (callFunc gf args).run P w = .ok (.enter gf args) w)
    {enc : Nat → Array Value} {Kp : World → World → Prop} {N : Nat} (hseq : IterGives F (n - 1) P gf lb enc N Kp w)
    (hKt : ∀ {A B C : World}, Kp A B → Kp B C → Kp A C) (hKb : ∀ (W : World) (l : Nat) (o o' : Go.Obj), w.heap.size ≤ l → W.heap[l]? = some o → o.isCells = false → Kp W (W.putObj l o'))
    (hKa : ∀ (W : World) (o : Go.Obj), w.heap.size ≤ W.heap.size → Kp W (W.alloc o)) (hps : ∀ k, k < N → (enc k).size = ps.size)
    (I : Nat → World → Prop) (Ix : Code → World → Prop) (hI : ∀ k, Turns w.heap.size (I k)) (hIx : ∀ c, Turns w.heap.size (Ix c)) (h0 : I 0 w) (hA : ∀ W (o : Go.Obj), o.isCells = false → I 0 W → I 0 (W.alloc o))
    (hround : ∀ (l k : Nat) (W : World), w.heap.size ≤ l → I k W → k < N →
      assign.wpIn (F.inRound l) (n - 1 - 1) P (Exit.then (fun a' W' => KeepsFrom w.heap.size W W' ∧ Kp W W' ∧ ∀ o o0 : Go.Obj, W'.heap[l]? = some o0 → o0.isCells = false → o.isCells = false →
        body.wpIn (F.inRound l) (n - 1 - 1) P (rangeEnd w.heap.size Kp I Ix k (W'.putObj l o)) a' (W'.putObj l o)) (fun _ _ _ => False)) { tmps := (ps.zip (enc k)).foldl (fun t (p, v) => t.setIfInBounds p v) a.tmps, defers := [] } W)
    (hdone : ∀ (D : Nat) (W : World), w.heap.size ≤ D → I N W → W.heap[D]? = some (.deferred (some [])) → Q .normal { a with defers := { target := .collected D, args := #[] } :: a.defers } W)
    (hstop : ∀ (D : Nat) (c : Code) (W : World), w.heap.size ≤ D → Ix c W → W.heap[D]? = some (.deferred (some [])) → c.wpIn F n P Q { a with defers := { target := .collected D, args := #[] } :: a.defers } W)
    (hId : ∀ k W, I k W → I k W.drew) :
    (Code.rangeFunc g ps assign body).wpIn F n P Q a w := by
  refine wpIn_rangeFunc ?_
  intro fn hfn
  rw [hro]
  obtain ⟨rec, hrec⟩ : ∃ rec : LoopState → Option Code → Loop, rec = fun st pe => { state := st, pending := pe, fn, tmps := a.tmps, params := ps, assign, body, defers := w.heap.size } := ⟨_, rfl⟩
  obtain ⟨W1, hW1⟩ : ∃ W1, (w.alloc (.deferred (some []))).alloc (.loop (rec .ready none)) = W1 := ⟨_, rfl⟩
  have hL1 : W1.heap[w.heap.size + 1]? = some (.loop (rec .ready none)) := by
    rw [← hW1]; have := World.alloc_heap_new (w.alloc (.deferred (some []))) (.loop (rec .ready none)); rwa [World.size_alloc] at this
  have hK1 : W1.heap[w.heap.size]? = some (.deferred (some [])) := by
    rw [← hW1]; exact (Below.heap_alloc _ _ _ (by simp)).trans (World.alloc_heap_new w _)
  have hI1 : I 0 W1 := by rw [← hW1]; exact hA _ _ rfl (hA _ _ rfl h0)
  have hb1 : Kp w W1 := by
    rw [← hW1]; exact hKt (hKa w _ (Nat.le_refl _)) (hKa _ _ (by simp))
  refine ⟨w.heap.size + 1, [{ target := .collected w.heap.size, args := #[] }], W1, { target := .fn (.func gf) lb, args := #[.func (.yield (w.heap.size + 1)) #[] #[]] }, W1, gf,
    #[.func (.yield (w.heap.size + 1)) #[] #[]] ++ lb, W1, ?_, ?_, ?_, ?_, fun _ => h1, ?_⟩
  · rw [← hW1, hrec]; exact run_enterLoop_outer _ _ _ _ _
  · simp only [resolve, hg]
    simp [go_sem]
  · intro f' hf'; simp [Target.leads] at hf'; subst hf'; exact hFg
  · simp [invoke, go_sem, eg]
  · refine (hseq (w.heap.size + 1)
      (fun k W => I k W ∧ W.heap[w.heap.size + 1]? = some (.loop (rec .ready none)) ∧ W.heap[w.heap.size]? = some (.deferred (some [])))
      (fun _ W => ∃ c, Ix c W ∧ W.heap[w.heap.size + 1]? = some (.loop (rec .done (some c))) ∧ W.heap[w.heap.size]? = some (.deferred (some [])))
      W1 hb1 (fun k W h => ⟨hId k W h.1, h.2.1, h.2.2⟩) ?_ ⟨hI1, hL1, hK1⟩).mono ?_
    · rintro k W ⟨hi, hl, hk⟩ hlen
      have hy := run_yield (P := P) (args := enc k) hl (by rw [hrec]; exact hps k hlen)
      rw [hrec] at hy
      refine ⟨fn, _, assign, body, hy, roundIn_of_wpIn hfn (wpIn_mono (hround _ k W (by omega) hi hlen) ?_)⟩
      clear hy
      intro e a' Wa hpost
      cases e with
      | normal =>
        obtain ⟨hkfa, hkpa, hbody⟩ := hpost
        have hl2 := hkfa.same _ _ (by omega) hl rfl
        have hk2 := hkfa.same _ _ (Nat.le_refl _) hk rfl
        have hlt : w.heap.size + 1 < Wa.heap.size := (Array.getElem?_eq_some_iff.1 hl2).1
        refine ⟨_, run_beginRound hl2 (by rw [hrec]), ?_⟩
        have hl3 : (Wa.putObj (w.heap.size + 1) (.loop { rec .ready none with state := .busy })).heap[w.heap.size + 1]? = some (.loop { rec .ready none with state := .busy }) := World.putObj_heap_same hlt
        have hk3 : (Wa.putObj (w.heap.size + 1) (.loop { rec .ready none with state := .busy })).heap[w.heap.size]? = some (.deferred (some [])) := (World.putObj_heap_other (by omega)).trans hk2
        have hw2 : Kp Wa (Wa.putObj (w.heap.size + 1) (.loop { rec .ready none with state := .busy })) := hKb _ _ _ _ (by omega) hl2 rfl
        refine wpIn_mono (hbody _ _ hl2 rfl rfl) ?_
        have fin : ∀ (jump : Option Code) (W3 : World), KeepsFrom w.heap.size (Wa.putObj (w.heap.size + 1) (.loop { rec .ready none with state := .busy })) W3 →
            (Instr.endRound (w.heap.size + 1) jump).run P W3 = .ok (.bool jump.isNone) (W3.putObj (w.heap.size + 1) (.loop (rec (if jump.isNone then .ready else .done) jump))) ∧
            W3.heap[w.heap.size + 1]? = some (.loop { rec .ready none with state := .busy }) ∧
            (W3.putObj (w.heap.size + 1) (.loop (rec (if jump.isNone then .ready else .done) jump))).heap[w.heap.size + 1]? = some (.loop (rec (if jump.isNone then .ready else .done) jump)) ∧
            (W3.putObj (w.heap.size + 1) (.loop (rec (if jump.isNone then .ready else .done) jump))).heap[w.heap.size]? = some (.deferred (some [])) := fun jump W3 hk4 => by
          have hl4 := hk4.same _ _ (by omega) hl3 rfl
          have := run_endRound (P := P) jump hl4
          rw [hrec] at this ⊢
          exact ⟨this, by rw [hrec] at hl4; exact hl4, World.putObj_heap_same (Array.getElem?_eq_some_iff.1 hl4).1, (World.putObj_heap_other (by omega)).trans (hk4.same _ _ (Nat.le_refl _) hk3 rfl)⟩
        rintro e a3 W3 hp
        cases e with
        | normal =>
          obtain ⟨hk4, hkp4, hi4⟩ := hp
          obtain ⟨hr, hl5, hl6, hk6⟩ := fin none W3 hk4
          exact ⟨_, _, hr, .inl ⟨rfl, ⟨hI _ _ _ _ _ (by omega) hi4 hl5 rfl rfl, hl6, hk6⟩, hKt hkpa (hKt (hKt hw2 hkp4) (hKb _ _ _ _ (by omega) hl5 rfl))⟩⟩
        | ret =>
          obtain ⟨hk4, hi4⟩ := hp
          obtain ⟨hr, hl5, hl6, hk6⟩ := fin (some .ret) W3 hk4
          exact ⟨_, _, hr, .inr ⟨rfl, .ret, hIx _ _ _ _ _ (by omega) hi4 hl5 rfl rfl, hl6, hk6⟩⟩
        | exit id =>
          obtain ⟨hk4, hi4⟩ := hp
          obtain ⟨hr, hl5, hl6, hk6⟩ := fin (some (.exit id)) W3 hk4
          exact ⟨_, _, hr, .inr ⟨rfl, .exit id, hIx _ _ _ _ _ (by omega) hi4 hl5 rfl rfl, hl6, hk6⟩⟩
        | goto t => exact hp.elim
        | panic ch => exact hp.elim
        | outgrown => exact hp.elim
      | exit id => exact hpost.elim
      | goto t => exact hpost.elim
      | ret => exact hpost.elim
      | panic ch => exact hpost.elim
      | outgrown => exact hpost.elim
    · rintro e W2 ⟨⟨v, rfl⟩, (⟨hi, hl, hk⟩ | ⟨_, c, hi, hl, hk⟩)⟩
      · exact ⟨none, _, by have := run_endLoop (P := P) hl (by rw [hrec]; simp); rw [hrec] at this; exact this, hdone _ _ (Nat.le_refl _) (hI _ _ _ _ _ (by omega) hi hl rfl rfl) ((World.putObj_heap_other (by omega)).trans hk)⟩
      · exact ⟨some c, _, by have := run_endLoop (P := P) hl (by rw [hrec]; simp); rw [hrec] at this; exact this, hstop _ c _ (Nat.le_refl _) (hIx _ _ _ _ _ (by omega) hi hl rfl rfl) ((World.putObj_heap_other (by omega)).trans hk)⟩
end
end Go.Vq
namespace Go.Vq
section
variable {P : Program} {n base m : Nat} {E E' E0 : Env} {σ σ' σ0 : St} {ts ts' : List Value} {H H' H0 : Array Go.Obj} {ids os : List Nat} {keep : Option (List Nat)}
theorem stab1_leaf {u : V} (h : u.leaf = true) : (stab1 ids u).leaf = true := by
  cases u <;> first
    | (simp [V.leaf] at h; done)
    | rfl
    | (simp only [stab1]; split <;> rfl)
    | (rename_i r; cases r <;> first | rfl | (simp only [stab1]; split <;> rfl))
theorem stab1_refs {u : V} : (stab1 ids u).refs1 = [] := by
  cases u <;> first
    | rfl
    | (simp only [stab1]; split <;> rfl)
    | (rename_i r; cases r <;> first | rfl | (simp only [stab1]; split <;> rfl))
theorem stab1_rel {slots0 slots : List V} {objs0 objs : List (Option Obj)} {vals0 vals : List Value} {h h' : Home} {u : V} {y : Value} (hm : ∀ b i, E0.imm b i → E.imm b i ∧ cellAt H b i = cellAt H0 b i)
    (ha : ∀ o, ids.contains o = true → alive objs0 o → E.addr o = E0.addr o ∧ alive objs o) (hR : RelV E0 slots0 objs0 vals0 H0 h u y) : RelV E slots objs vals H h' (stab1 ids u) y := by
  cases u <;> first | exact hR.elim | skip
  case srf => trivial
  case xsl => trivial
  case fsl => trivial
  case asl => trivial
  case gone => trivial
  case ptr r =>
    cases r with
    | obj o off =>
      simp only [stab1]
      split
      · rename_i hi
        obtain ⟨e1, e2⟩ := ha o hi hR.2
        refine ⟨?_, e2⟩
        rw [e1]; exact hR.1
      · trivial
    | elem => trivial
  case map o =>
    simp only [stab1]
    split
    · rename_i hi
      obtain ⟨e1, e2⟩ := ha o hi hR.2
      refine ⟨?_, e2⟩
      rw [e1]; exact hR.1
    · trivial
  case func f cs =>
    simp only [stab1]
    split
    · rename_i hi
      exact RelC.mono hm hR fun o ho hal => ha o (List.all_eq_true.1 hi o ho) hal
    · trivial
  case isl g sz es =>
    simp only [RelV, stab1] at hR ⊢
    have : RelI E0.imm H0 (.isl 0 sz es) y := by
      cases hR with
      | isl _ _ _ a cap xs hc ha hsp hz hx h => exact .isl _ _ _ a cap xs hc ha hsp hz hx h
    exact this.mono hm
  case csl sz es => exact ⟨hR.1.mono hm, hR.2⟩
  case iptr cs =>
    obtain ⟨ad, h1, hs, h2⟩ := hR
    refine ⟨ad, h1, hs, fun j v hj => ?_⟩
    obtain ⟨e0, z, e1, e2, e3⟩ := h2 j v hj
    exact ⟨e0, z, (hm _ _ e1).1, (hm _ _ e1).2.trans e2, e3.mono hm⟩
  all_goals exact RelI.mono hm hR
theorem stabSlots_get : ∀ (vs : List V) (j i : Nat), (stabSlots keep ids j vs)[i]? = (vs[i]?).map fun v => if ((keep.getD []).contains (j + i) || keep.isNone) = true then v.withLeaves (v.leaves.map (stab1 ids)) else .gone 0
  | [], j, i => by simp [stabSlots]
  | v :: vs, j, 0 => by simp [stabSlots]
  | v :: vs, j, i + 1 => by
    simp only [stabSlots, List.getElem?_cons_succ]
    rw [stabSlots_get vs (j + 1) i, show j + 1 + i = j + (i + 1) by omega]
theorem stabSlots_len : ∀ (vs : List V) (j : Nat), (stabSlots keep ids j vs).length = vs.length
  | [], j => rfl
  | v :: vs, j => by simp [stabSlots, stabSlots_len]
theorem idsBut_mem {o : Nat} (h : (idsBut m σ).contains o = true) : o < m ∧ alive σ.objs o := by
  have h' : o ∈ idsBut m σ := by simpa using h
  unfold idsBut at h'
  obtain ⟨h1, h2⟩ := List.mem_filter.1 h'
  refine ⟨List.mem_range.1 h1, ?_⟩
  obtain ⟨x, hx⟩ := Option.isSome_iff_exists.1 h2
  exact ⟨x, obj_some hx⟩
theorem range_core (hC0 : CoreS n E0 σ0 [] ts [] H0) (hC : CoreS n E σ [] ts' [] H) (hm : ∀ b i, E0.imm b i → E.imm b i ∧ cellAt H b i = cellAt H0 b i) (hA : ∀ o, o < m → E.addr o = E0.addr o) :
    CoreS n E (rangeSt keep m σ0.slots σ) [] ts [] H ∧ ∀ v ∈ (rangeSt keep m σ0.slots σ).slots, v.refs = [] := by
  have h0 := hC0.core
  simp only [List.append_nil] at h0
  obtain ⟨ids, hids⟩ : ∃ ids, ids = idsBut m σ := ⟨_, rfl⟩
  have hR := (reb_sound (keep := []) (ids := ids) hC).core
  simp only [List.append_nil] at hR
  have hobjs : (rangeSt keep m σ0.slots σ).objs = (rebSt [] ids σ).objs := by rw [hids]; rfl
  have hslots : (rangeSt keep m σ0.slots σ).slots = stabSlots keep ids 0 σ0.slots := by rw [hids]; rfl
  have hsl : (rangeSt keep m σ0.slots σ).slots.length = n := by rw [hslots, stabSlots_len]; exact hC0.sl
  have hal : ∀ o, ids.contains o = true → alive σ0.objs o → E.addr o = E0.addr o ∧ alive (rebSt [] ids σ).objs o := by
    intro o ho _
    have h := idsBut_mem (hids ▸ ho)
    exact ⟨hA o h.1, reb_alive h.2 ho⟩
  have hget : ∀ (s : Nat) (v' : V), (rangeSt keep m σ0.slots σ).slots[s]? = some v' → ∃ v, σ0.slots[s]? = some v ∧ (v' = v.withLeaves (v.leaves.map (stab1 ids)) ∨ v' = .gone 0) := by
    intro s v' hv'
    rw [hslots, stabSlots_get] at hv'
    obtain ⟨v, hv, e⟩ := Option.map_eq_some_iff.1 hv'
    refine ⟨v, hv, ?_⟩
    split at e
    · exact .inl e.symm
    · exact .inr e.symm
  have hlv : ∀ (s : Nat) (v : V), σ0.slots[s]? = some v → (v.withLeaves (v.leaves.map (stab1 ids))).leaves = v.leaves.map (stab1 ids) ∧ v.formed ∧ ∀ u ∈ v.leaves.map (stab1 ids), u.leaf = true := by
    intro s v hv
    obtain ⟨x, hx⟩ := exists_getElem? (l := ts) (i := s) (by have := lt_of_getElem? hv; rw [hC0.tl, ← hC0.sl]; exact this)
    have hS := h0.slot s v x hv hx
    have hlf : ∀ u ∈ v.leaves.map (stab1 ids), u.leaf = true := by
      intro u hu
      obtain ⟨u0, hu0, rfl⟩ := List.mem_map.1 hu
      exact stab1_leaf (hS.leafs u0 hu0)
    exact ⟨withLeaves_leaves hS.formed (by simp) hlf, hS.formed, hlf⟩
  have hrefs : ∀ (s : Nat) (v' : V), (rangeSt keep m σ0.slots σ).slots[s]? = some v' → v'.refs = [] := by
    intro s v' hv'
    obtain ⟨v, hv, rfl | rfl⟩ := hget s v' hv'
    · obtain ⟨l1, _, _⟩ := hlv s v hv
      rw [refs_of_leaves l1, List.flatMap_eq_nil_iff]
      intro u hu
      obtain ⟨u0, _, rfl⟩ := List.mem_map.1 hu
      exact stab1_refs
    · simp [V.refs, V.leaves, V.refs1]
  refine ⟨⟨hsl, hC0.tl, ?_⟩, fun v hv => by obtain ⟨s, hs⟩ := List.mem_iff_getElem?.1 hv; exact hrefs s v hs⟩
  simp only [List.append_nil]
  refine ⟨by rw [hsl, hC0.tl], by rw [hsl]; exact Nat.le_refl _, fun s v' x hv' hx => ?_, fun o cs' ho' => ?_, hR.fresh, fun s v' hv' q hq => by rw [hrefs s v' hv'] at hq; cases hq⟩
  · obtain ⟨v, hv, rfl | rfl⟩ := hget s v' hv'
    · have hS := h0.slot s v x hv hx
      obtain ⟨l1, l2, l3⟩ := hlv s v hv
      refine ⟨?_, fun i u y hu hy => ?_⟩
      · by_cases hg : ∃ g, v = .gone g
        · obtain ⟨g, rfl⟩ := hg; trivial
        · exact withLeaves_shape l2 (by simp) l3 hS.1 (fun g e => hg ⟨g, e⟩)
      · rw [l1, List.getElem?_map] at hu
        obtain ⟨u0, hu0, rfl⟩ := Option.map_eq_some_iff.1 hu
        rw [hobjs]
        exact stab1_rel hm hal (hS.2 i u0 y hu0 hy)
    · exact ⟨trivial, fun i u y hu _ => by
        cases i with
        | zero => simp [V.leaves] at hu; subst hu; trivial
        | succ i => simp [V.leaves] at hu⟩
  · rw [hobjs] at ho' ⊢
    obtain ⟨arr, T, f, g1, g2, g3, g4, g5, g6⟩ := hR.obj o cs' ho'
    refine ⟨arr, T, f, g1, g2, g3, g4, fun i u y hu hy => ?_, g6⟩
    refine (g5 i u y hu hy).move (fun _ _ h => ⟨h, rfl⟩) (fun _ b hb => ⟨hb, rfl⟩) (fun _ b k hb => ⟨hb, rfl⟩) (fun o _ h => ⟨rfl, h⟩) (fun o _ _ _ h => ⟨rfl, h⟩) fun r hr => ?_
    rw [V.inObj_refs1 (g6 u (List.mem_of_getElem? hu))] at hr; cases hr
def Env.clear (E : Env) (B : Nat) (H : Array Go.Obj) : Env := { E with tag := fun b => if b < B ∨ ∃ o, H[b]? = some o ∧ o.isCells = true then E.tag b else .other }
theorem clear_core {B : Nat} (hC : CoreS n E σ [] ts [] H) (hs : H.size ≤ H'.size) (hk : ∀ b o, H[b]? = some o → (b < B ∨ o.isCells = true) → H'[b]? = some o) (hB : B ≤ H.size) :
    CoreS n (E.clear B H) σ [] ts [] H' := by
  have h0 := hC.core
  simp only [List.append_nil] at h0
  refine ⟨hC.sl, hC.tl, ?_⟩
  simp only [List.append_nil]
  have htag : ∀ {b : Nat} {c : Array Value} {T : TypeId} {f : Nat × Nat}, H[b]? = some (.cells c T f) → (E.clear B H).tag b = E.tag b := by
    intro b c T f h
    unfold Env.clear
    simp only
    rw [if_pos (.inr ⟨_, h, rfl⟩)]
  have hcell : ∀ {b i : Nat} {x : Value}, cellAt H b i = some x → ∃ c T f, H[b]? = some (.cells c T f) := by
    intro b i x h
    unfold cellAt at h
    split at h
    · exact ⟨_, _, _, by assumption⟩
    · cases h
  have hsame : ∀ {b : Nat} {c : Array Value} {T : TypeId} {f : Nat × Nat}, H[b]? = some (.cells c T f) → H'[b]? = some (.cells c T f) := fun h => hk _ _ h (.inr rfl)
  have hcell' : ∀ {b i : Nat} {x : Value}, cellAt H b i = some x → cellAt H' b i = some x := by
    intro b i x h
    obtain ⟨c, T, f, hc⟩ := hcell h
    unfold cellAt at h ⊢
    rw [hsame hc]; rw [hc] at h; exact h
  have himm : ∀ {b i : Nat} {x : Value}, E.imm b i → cellAt H b i = some x → (E.clear B H).imm b i := by
    intro b i x h hc
    obtain ⟨c, T, f, hb⟩ := hcell hc
    unfold Env.imm at h ⊢
    rw [htag hb]; exact h
  have hI : ∀ {u : V} {y : Value}, RelI E.imm H u y → RelI (E.clear B H).imm H' u y := by
    intro u y h
    induction h with
    | bool b => exact .bool b
    | int k n => exact .int k n
    | str s => exact .str s
    | nil => exact .nil
    | nilf => exact .nilf
    | nilm => exact .nilm
    | nili => exact .nili
    | nilS sz => exact .nilS sz
    | iface t v x hp _ ih => exact .iface t v x hp ih
    | agg cs xs hn _ ih => exact .agg cs xs hn ih
    | isl g sz es a cap xs hc ha hsp hz hx _ ih =>
      refine .isl g sz es a cap xs hc ha hsp hz (fun ad i e j v h1 h2 h3 => ?_) ih
      obtain ⟨p, q⟩ := hx ad i e j v h1 h2 h3
      exact ⟨himm p q, hcell' q⟩
  have hE : ∀ {a : Option Addr} {sz : Nat} {es : List V}, Elems E.imm H a sz es → Elems (E.clear B H).imm H' a sz es := by
    intro a sz es h
    refine ⟨h.1, fun i e j v h1 h2 => ?_⟩
    obtain ⟨ad, x, e1, e2, e3⟩ := h.2 i e j v h1 h2
    exact ⟨ad, x, e1, hcell' e2, hI e3⟩
  have hRC : ∀ {u : V} {y : Value}, RelC E σ.objs H u y → RelC (E.clear B H) σ.objs H' u y := by
    intro u y h
    induction h with
    | imm v x h hl => exact .imm v x (hI h) hl
    | ptr o off hl => exact .ptr (E := E.clear B H) o off hl
    | map o hl => exact .map (E := E.clear B H) o hl
    | iptr cs ad hs h =>
      refine .iptr cs ad hs fun j v hj => ?_
      obtain ⟨e0, y, e1, e2, e3⟩ := h j v hj
      exact ⟨e0, y, himm e1 e2, hcell' e2, hI e3⟩
    | func f cs xs hn _ ih => exact .func f cs xs hn ih
  have hhd : ∀ {h : Home} {y : Value}, hd E ts H h = some y → hd (E.clear B H) ts H' h = some y := by
    intro h y hy
    cases h with
    | slot s i => exact hy
    | obj o i => exact hcell' hy
  have hmv : ∀ {h : Home} {u : V} {y : Value}, RelV E σ.slots σ.objs ts H h u y → RelV (E.clear B H) σ.slots σ.objs ts H' h u y := by
    intro h u y hR
    cases u <;> first | exact hR.elim | exact hI hR | trivial | skip
    case xsl g sz es =>
      obtain ⟨a, cap, h1, h2, h3, h4, h5, h6⟩ := hR
      refine ⟨a, cap, h1, h2, h3, h4, fun hc => ?_, hE h6⟩
      obtain ⟨ad, arr, T, f, e1, e2, e3, e4, e5⟩ := h5 hc
      exact ⟨ad, arr, T, f, e1, (htag e3).trans e2, hsame e3, e4, e5⟩
    case fsl g sz es =>
      obtain ⟨a, cap, h1, h2, h3, h4, h5, h6⟩ := hR
      refine ⟨a, cap, h1, h2, h3, h4, fun hc => ?_, hE h6⟩
      obtain ⟨ad, arr, T, f, e1, e2, e3, e4, e5⟩ := h5 hc
      exact ⟨ad, arr, T, f, e1, (htag e3).trans e2, hsame e3, e4, e5⟩
    case csl sz es => exact ⟨hI hR.1, hR.2⟩
    case ptr r =>
      cases r with
      | obj o off => exact hR
      | elem hh g sz i off =>
        obtain ⟨ad', e0, hv⟩ := hR
        refine ⟨ad', e0, fun hvl => ?_⟩
        obtain ⟨ad, l, c, e1, e2⟩ := hv hvl
        exact ⟨ad, l, c, hhd e1, e2⟩
    case srf hh g sz off len =>
      obtain ⟨a', c', e1, e2, e3, e4, hv⟩ := hR
      refine ⟨a', c', e1, e2, e3, e4, fun hvl => ?_⟩
      obtain ⟨a, l, c, f1, f2⟩ := hv hvl
      exact ⟨a, l, c, hhd f1, f2⟩
    case asl r len =>
      cases r with
      | obj o off => exact hR
      | elem hh g sz i off =>
        obtain ⟨ad', c', e1, e2, es, hv⟩ := hR
        refine ⟨ad', c', e1, e2, es, fun hvl => ?_⟩
        obtain ⟨ad, l, c, f1, f2⟩ := hv hvl
        exact ⟨ad, l, c, hhd f1, f2⟩
    case iptr cs =>
      obtain ⟨ad, h1, hs, h2⟩ := hR
      refine ⟨ad, h1, hs, fun j v hj => ?_⟩
      obtain ⟨e0, y, e1, e2, e3⟩ := h2 j v hj
      exact ⟨e0, y, himm e1 e2, hcell' e2, hI e3⟩
    case func f cs => exact hRC hR
  refine ⟨h0.len, h0.real, fun s v x hv hx => ⟨(h0.slot s v x hv hx).1, fun i u y hu hy => hmv ((h0.slot s v x hv hx).2 i u y hu hy)⟩, fun o cs hcs => ?_, fun b hb => ?_, h0.refs⟩
  · obtain ⟨arr, T, f, g1, g2, g3, g4, g5, g6⟩ := h0.obj o cs hcs
    exact ⟨arr, T, f, hsame g1, (htag g1).trans g2, g3, g4, fun i u y hu hy => hmv (g5 i u y hu hy), g6⟩
  · unfold Env.clear
    simp only
    have := h0.fresh b (by omega)
    split
    · exact this
    · rfl
theorem clear_grow {B : Nat} (hf : ∀ b, B ≤ b → E0.tag b = .other) (hG : Grow m E0 H0 E H) (hs : H.size ≤ H'.size) (hk : ∀ b o, H[b]? = some o → (b < B ∨ o.isCells = true) → H'[b]? = some o) (hB : H0.size = B) :
    Grow m E0 H0 (E.clear B H) H' := by
  have hlt : ∀ b, E0.tag b ≠ .other → b < B := fun b h => by
    rcases Nat.lt_or_ge b B with h1 | h1
    · exact h1
    · exact absurd (hf b h1) h
  have htag : ∀ b, b < B → (E.clear B H).tag b = E.tag b := fun b h => by unfold Env.clear; simp only; rw [if_pos (.inl h)]
  have hsame : ∀ b, b < B → H'[b]? = H[b]? := fun b h => by
    have h1 : b < H.size := by have := hG.size; omega
    have h2 : H[b]? = some H[b] := Array.getElem?_eq_getElem h1
    rw [h2]; exact hk b _ h2 (.inl h)
  refine ⟨Nat.le_trans hG.size hs, fun b i h => ?_, fun b hb h => ?_, fun b h => ?_, fun b k h => ?_, fun o ho => hG.addr o ho⟩
  · have hb := hlt b (by intro e; simp [Env.imm, e] at h)
    have := hG.imm b i h
    refine ⟨?_, ?_⟩
    · unfold Env.imm; rw [htag b hb]; exact this.1
    · unfold cellAt; rw [hsame b hb]; exact this.2
  · have := hG.other b hb h
    exact ⟨(htag b (by omega)).trans this.1, (hsame b (by omega)).trans this.2⟩
  · have hb := hlt b (by rw [h]; simp)
    have := hG.immT b h
    exact ⟨(htag b hb).trans this.1, (hsame b hb).trans this.2⟩
  · have hb := hlt b (by rw [h]; simp)
    have := hG.lentT b k h
    exact ⟨(htag b hb).trans this.1, (hsame b hb).trans this.2⟩
def RelE (E : Env) (H : Array Go.Obj) (v : V) (y : Value) : Prop := Shape1 v y ∧ ∀ (j : Nat) (u : V) (z : Value), v.cells[j]? = some u → (vcells y)[j]? = some z → u.leaf = true ∧ RelI E.imm H u z
theorem cells_leaves {v : V} {y : Value} (h : Shape1 v y) : v.leaves = v.cells := by
  cases v <;> first | rfl | exact h.elim
theorem relE_slot {v : V} {y : Value} (h : RelE E H v y) (slots : List V) (objs : List (Option Obj)) (vals : List Value) (s : Nat) : SlotRel E slots objs vals H s v y ∧ v.refs = [] := by
  have hl := cells_leaves h.1
  have hvl : vleaves y = vcells y ∨ v.leaf = true := by
    cases v <;> first | exact .inr rfl | exact h.1.elim | skip
    obtain ⟨xs, rfl, _⟩ := h.1
    exact .inl rfl
  have key : vleaves y = vcells y := by
    rcases hvl with h1 | h1
    · exact h1
    · have hx : aggX y = false := (shape1_leaf h1).1 h.1
      have hc : v.cells = [v] := cells_leaf h1
      have hy := vcells_leaf hx
      have h2 := (h.2 0 v y (by rw [hc]; rfl) (by rw [hy]; rfl)).2
      rw [hy, vleaves_leaf (relI_leafX h2 h1)]
  refine ⟨⟨?_, fun i u z hu hz => ?_⟩, ?_⟩
  · cases v <;> first | exact h.1 | exact h.1.elim | skip
    all_goals
      have hx : aggX y = false := h.1
      have hy := vcells_leaf hx
      have h2 := (h.2 0 _ y rfl (by rw [hy]; rfl)).2
      first | exact relI_leafX h2 rfl | trivial
  · rw [hl] at hu; rw [key] at hz
    obtain ⟨h1, h2⟩ := h.2 i u z hu hz
    exact (relI_rel h2 h1).1 _ _ _ _
  · rw [V.refs, hl, List.flatMap_eq_nil_iff]
    intro u hu
    obtain ⟨i, hi⟩ := List.mem_iff_getElem?.1 hu
    have hlen : i < (vcells y).length := by
      have : (vcells y).length = v.cells.length := by
        cases v <;> first | exact h.1.elim | skip
        case agg cs => obtain ⟨xs, rfl, hn⟩ := h.1; simp [vcells, Value.cells, V.cells, hn]
        all_goals
          have hx : aggX y = false := h.1
          rw [vcells_leaf hx]; rfl
      rw [this]; exact lt_of_getElem? hi
    obtain ⟨z, hz⟩ := exists_getElem? hlen
    obtain ⟨h1, h2⟩ := h.2 i u z hi hz
    exact (relI_rel h2 h1).2.2
theorem set_core (hC : CoreS n E σ [] ts [] H) (hn : ∀ v ∈ σ.slots, v.refs = []) {p : Nat} {v : V} {y : Value} (hv : RelE E H v y) :
    CoreS n E { σ with slots := σ.slots.set p v } [] (ts.set p y) [] H ∧ ∀ u ∈ σ.slots.set p v, u.refs = [] := by
  have h0 := hC.core
  simp only [List.append_nil] at h0
  have hnr : ∀ u ∈ σ.slots.set p v, u.refs = [] := fun u hu => by
    rcases List.mem_or_eq_of_mem_set hu with h | rfl
    · exact hn u h
    · exact (relE_slot hv [] [] [] 0).2
  refine ⟨⟨by simpa using hC.sl, by simpa using hC.tl, ?_⟩, hnr⟩
  simp only [List.append_nil]
  refine ⟨by simpa using h0.len, by simpa using h0.real, fun s u x hu hx => ?_, fun o cs hcs => ?_, h0.fresh, fun s u hu q hq => by rw [hnr u (List.mem_of_getElem? hu)] at hq; cases hq⟩
  · by_cases hp : p = s
    · subst hp
      have h1 : p < σ.slots.length := by have := lt_of_getElem? hu; simpa using this
      have h2 : p < ts.length := by have := lt_of_getElem? hx; simpa using this
      rw [List.getElem?_set_self h1] at hu
      rw [List.getElem?_set_self h2] at hx
      cases hu; cases hx
      exact (relE_slot hv _ _ _ _).1
    · rw [List.getElem?_set_ne hp] at hu hx
      have hS := h0.slot s u x hu hx
      refine ⟨hS.1, fun i z y hz hy => (hS.2 i z y hz hy).move (fun _ _ h => ⟨h, rfl⟩) (fun _ b hb => ⟨hb, rfl⟩) (fun _ b k hb => ⟨hb, rfl⟩) (fun o _ h => ⟨rfl, h⟩) (fun o _ _ _ h => ⟨rfl, h⟩) fun r hr => ?_⟩
      have := hn u (List.mem_of_getElem? hu)
      rw [V.refs, List.flatMap_eq_nil_iff] at this
      rw [this z (List.mem_of_getElem? hz)] at hr; cases hr
  · obtain ⟨arr, T, f, g1, g2, g3, g4, g5, g6⟩ := h0.obj o cs hcs
    refine ⟨arr, T, f, g1, g2, g3, g4, fun i u y hu hy => ?_, g6⟩
    refine (g5 i u y hu hy).move (fun _ _ h => ⟨h, rfl⟩) (fun _ b hb => ⟨hb, rfl⟩) (fun _ b k hb => ⟨hb, rfl⟩) (fun o _ h => ⟨rfl, h⟩) (fun o _ _ _ h => ⟨rfl, h⟩) fun r hr => ?_
    rw [V.inObj_refs1 (g6 u (List.mem_of_getElem? hu))] at hr; cases hr
end
end Go.Vq
namespace Go.Vq
theorem wpIn_any {ro : Option Nat} {n m : Nat} {P : Program} {c : Code} {Q : Exit → Act → World → Prop} {a : Act} {w : World} (h : c.wpIn (Fw ro) n P Q a w) : c.wpIn (Fw ro) m P Q a w :=
  fun b k cs h1 h2 _ => h b k cs h1 h2 (fun _ h => by cases h)
theorem wpIn_loop_fuel {F : Fence} {n : Nat} {P : Program} {Q : Exit → Act → World → Prop} {a : Act} {w : World} {c : Code} {m : Nat} (J : Nat → Act → World → Prop) (h₀ : J m a w)
    (round : ∀ m a w, J m a w → c.wpIn F n P (Exit.then (fun a' w' => ∃ m', m' < m ∧ J m' a' w') Q) a w) : (Code.loop c).wpIn F n P Q a w := by
  intro b k cs hro hb hr
  have key : ∀ j a w, J j a w →
      ∃ e a' w', Q e a' w' ∧ ArrivesIn (Machine.fenced P F) P (lone (b.atR a (.code c :: .inLoop c :: k)) cs w) b k cs e a' w' := by
    intro j
    induction j using Nat.strongRecOn with
    | _ j ih =>
      intro a w hI
      obtain ⟨e, a₁, w₁, hq, harr⟩ := round j a w hI b (.inLoop c :: k) cs hro hb hr
      cases e with
      | normal =>
        obtain ⟨m', hlt, hI₁⟩ := hq
        obtain ⟨e₂, a₂, w₂, hq₂, harr₂⟩ := ih m' hlt a₁ w₁ hI₁
        exact ⟨e₂, a₂, w₂, hq₂, .of_steps (StepsIn.trans harr (.one (fenced_calm hb hr rfl) stepR_inLoop)) harr₂⟩
      | exit id => exact ⟨_, a₁, w₁, hq, .pass (x := .inLoop c) rfl (fun _ _ => .inl (by simp)) harr⟩
      | goto l => exact ⟨_, a₁, w₁, hq, .pass (x := .inLoop c) rfl (fun _ _ => .inl (by simp)) harr⟩
      | ret => exact ⟨_, a₁, w₁, hq, .pass (x := .inLoop c) rfl (fun _ _ => .inl (by simp)) harr⟩
      | panic ch => exact ⟨_, a₁, w₁, hq, .pass (x := .inLoop c) rfl (fun _ _ => .inl (by simp)) harr⟩
      | outgrown => exact ⟨_, a₁, w₁, hq, .pass (x := .inLoop c) rfl (fun _ _ => .inl (by simp)) harr⟩
  obtain ⟨e, a', w', hq, harr⟩ := key _ a w h₀
  exact ⟨e, a', w', hq, .of_steps (.one (fenced_calm hb hr rfl) stepR_loop) harr⟩
theorem stepR_scope {P : Program} {b : Frame} {a : Act} {k : List Item} {cs : List Frame} {w : World} {c : Code} : Go.step P (lone (b.atR a (.code (.scope c) :: k)) cs w) = .next (lone (b.atR a (.code c :: .inScope c :: k)) cs w) :=
  step_lone_go (by simp [stepG, stepG.exec, Frame.atR])
theorem stepR_inScope {P : Program} {b : Frame} {a : Act} {k : List Item} {cs : List Frame} {w : World} {c : Code} : Go.step P (lone (b.atR a (.inScope c :: k)) cs w) = .next (lone (b.atR a k) cs w) :=
  step_lone_go (by simp [stepG, stepG.exec, Frame.atR])
theorem wpIn_scope {F : Fence} {n : Nat} {P : Program} {Q : Exit → Act → World → Prop} {a : Act} {w : World} {c : Code} (h : c.wpIn F n P (Exit.noGoto Q) a w) : (Code.scope c).wpIn F n P Q a w := by
  intro b k cs hro hb hr
  have h0 : (lone (b.atR a (.code (.scope c) :: k)) cs w).fenced P F := fenced_calm hb hr rfl
  obtain ⟨e, a₁, w₁, hq, harr⟩ := h b (.inScope c :: k) cs hro hb hr
  cases e with
  | normal => exact ⟨.normal, a₁, w₁, hq, .head h0 stepR_scope (StepsIn.trans harr (.one (fenced_calm hb hr rfl) stepR_inScope))⟩
  | exit id =>
    have hx : exitTo id (.inScope c :: k) = exitTo id k := by simp [exitTo]
    exact ⟨.exit id, a₁, w₁, hq, fun k' hk => .head h0 stepR_scope (harr.1 k' (by rw [hx]; exact hk)),
        fun hr' hk => let ⟨k₁, h1, h2⟩ := harr.2 hr' (by rw [hx]; exact hk); ⟨k₁, h1, .head h0 stepR_scope h2⟩⟩
  | goto l => exact hq.elim
  | ret => exact ⟨_, a₁, w₁, hq, .of_steps (.one h0 stepR_scope) harr⟩
  | panic ch => exact ⟨_, a₁, w₁, hq, .of_steps (.one h0 stepR_scope) harr⟩
  | outgrown => exact ⟨_, a₁, w₁, hq, .of_steps (.one h0 stepR_scope) harr⟩
def Out.exit' : Out → Exit
  | .normal => .normal
  | .exit id => .exit id
  | .ret => .ret
def Marks (B : Nat) (E : Env) (ds ds' : List Deferred) (H : Array Go.Obj) : Prop :=
  ∃ ms : List Nat, ds' = ms.map (fun D => { target := .collected D, args := #[] }) ++ ds ∧ ms.Nodup ∧ ∀ D ∈ ms, B ≤ D ∧ E.tag D = .other ∧ H[D]? = some (.deferred (some []))
theorem Marks.refl {B : Nat} {E : Env} {ds ds' : List Deferred} {H : Array Go.Obj} (h : ds' = ds) : Marks B E ds ds' H := ⟨[], by simpa using h, List.nodup_nil, fun _ h => by cases h⟩
theorem Marks.trans {base B : Nat} {E1 E2 : Env} {ds ds1 ds2 : List Deferred} {H1 H2 : Array Go.Obj} (h : Marks B E1 ds ds1 H1) (hG : Grow base E1 H1 E2 H2) (h' : Marks H1.size E2 ds1 ds2 H2) (hB : B ≤ H1.size) : Marks B E2 ds ds2 H2 := by
  obtain ⟨m1, rfl, n1, p1⟩ := h
  obtain ⟨m2, rfl, n2, p2⟩ := h'
  have hlt : ∀ D ∈ m1, D < H1.size := fun D hD => (Array.getElem?_eq_some_iff.1 (p1 D hD).2.2).1
  refine ⟨m2 ++ m1, by simp, List.nodup_append.2 ⟨n2, n1, fun x hx y hy e => ?_⟩, fun D hD => ?_⟩
  · subst e; have := hlt x hy; have := (p2 x hx).1; omega
  · rcases List.mem_append.1 hD with h | h
    · exact ⟨Nat.le_trans hB (p2 D h).1, (p2 D h).2⟩
    · have := hG.other D (hlt D h) (p1 D h).2.1
      exact ⟨(p1 D h).1, this.1, this.2.trans (p1 D h).2.2⟩
def NextD (n base : Nat) (E : Env) (σ' : St) (a : Act) (w : World) (next : Act → World → Prop) : Prop :=
  ∀ (E' : Env) (a' : Act) (w' : World), CoreS n E' σ' [] a'.tmps.toList [] w'.heap → Grow base E w.heap E' w'.heap → WSame w w' → Marks w.heap.size E' a.defers a'.defers w'.heap → next a' w'
structure IterOk (P : Program) (g : FuncId) (run : Iter) : Prop where
  enter : EnterOk P g
  gives : ∀ (bs xs : List (List V)) (ar : Nat), run bs = some (ar, xs) → ∀ (E : Env) (lb : Array Value) (w : World), bs.length = lb.size →
    (∀ (i : Nat) (cs : List V), bs[i]? = some cs → ∃ ad : Addr, lb[i]? = some (.pointer (some ad)) ∧ ad.spot = none ∧ ∀ (j : Nat) (u : V), cs[j]? = some u → ∃ y, E.imm ad.block (ad.off + j) ∧ cellAt w.heap ad.block (ad.off + j) = some y ∧ RelI E.imm w.heap u y) →
    ∃ enc : Nat → Array Value, (∀ (k : Nat) (x : List V), xs[k]? = some x → x.length = ar ∧ (enc k).size = ar ∧ ∀ (j : Nat) (v : V) (y : Value), x[j]? = some v → (enc k)[j]? = some y → RelE E w.heap v y) ∧
      ∀ Kp : World → World → Prop, (∀ A B C, Kp A B → Kp B C → Kp A C) → (∀ A B, Kp A B → ∀ b i, E.imm b i → cellAt B.heap b i = cellAt A.heap b i) → (∀ A, Kp A A.drew) → IterGives (Fw none) 4 P g lb enc xs.length Kp w
section
variable {P : Program} {n base : Nat} {E E' E2 : Env} {σ σ' : St} {hs : List V} {ts xs : List Value} {H H' H2 : Array Go.Obj}
variable {a : Act} {w : World} {G : VProg}
theorem NextD.of {next : Act → World → Prop} (K : NextD n base E σ' a w next) : NextOk n base E σ' a w next := fun E' a' w' h1 h2 h3 h4 => K E' a' w' h1 h2 h3 (.refl h4)
theorem condV_sound {c : Operand} {c' : Opd} {b : Bool} (hC : CoreS n E σ [] a.tmps.toList [] w.heap) (hc : opd0 c = some c') (h : condV c' σ = some b) : a.eval c = .bool b := by
  have hr : (gBool c' fun b' => if b' = b then .ret else .fail).run σ = some σ := by
    cases c' with
    | tmp t =>
      simp only [condV] at h
      split at h
      · rename_i b' hb
        cases h
        simp only [gBool, gOpd, Prog.run, hb, if_true]
      · cases h
    | val v =>
      cases v <;> simp only [condV, Option.some.injEq, reduceCtorEq] at h
      subst h
      simp only [gBool, gOpd, if_true, Prog.run]
  obtain ⟨b', h1, h2⟩ := gBool_sound hC (opd0_ok a hc) hr
  by_cases e : b' = b
  · subst e; exact h1
  · rw [if_neg e] at h2; cases h2
theorem bad_run {site m : Nat} {vc : VCode} {callee : Callee} {its : FuncId → Iter} {again : Nat → VCode → St → Option (Out × St)} {σ σ' : St} {out : Out} (hc : some (site, VCode.bad) = some (m, vc.strip)) (hr : step callee its again base vc σ = some (out, σ')) : False := by
  simp only [Option.some.injEq, Prod.mk.injEq] at hc
  cases vc <;> simp only [VCode.strip, reduceCtorEq, and_false] at hc
  simp only [step] at hr
  cases hr
end
end Go.Vq
namespace Go.Vq
open Go.RowKit
section
variable {P : Program} {n base m : Nat} {E E' E2 : Env} {σ σ' : St} {hs : List V} {ts xs : List Value} {H H' H2 : Array Go.Obj}
variable {a : Act} {w : World} {G : VProg}
theorem Grow.less {base m : Nat} (h : Grow m E H E' H') (hb : base ≤ m) : Grow base E H E' H' := ⟨h.size, h.imm, h.other, h.immT, h.lentT, fun o ho => h.addr o (by omega)⟩
theorem pfold_sets : ∀ (l : List (Nat × Value)) (t : Array Value), (l.foldl (fun t p => t.setIfInBounds p.1 p.2) t).toList = l.foldl (fun t p => t.set p.1 p.2) t.toList
  | [], t => rfl
  | p :: l, t => by simp only [List.foldl_cons]; rw [pfold_sets l]; simp
theorem pfold_sets2 (ps : Array Nat) (vs : Array Value) (t : Array Value) : ((ps.zip vs).foldl (fun t (p, v) => t.setIfInBounds p v) t).toList = (ps.toList.zip vs.toList).foldl (fun t p => t.set p.1 p.2) t.toList := by
  rw [← pfold_sets, ← Array.foldl_toList, Array.toList_zip]
theorem setPs_core : ∀ (ps : List Nat) (x : List V) (y : List Value) {σ : St} {ts : List Value}, CoreS n E σ [] ts [] H → (∀ v ∈ σ.slots, v.refs = []) → y.length = x.length → (∀ (j : Nat) (v : V) (z : Value), x[j]? = some v → y[j]? = some z → RelE E H v z) →
    CoreS n E (setPs ps x σ) [] ((ps.zip y).foldl (fun t p => t.set p.1 p.2) ts) [] H
  | [], x, y, σ, ts, hC, _, _, _ => by simpa [setPs] using hC
  | p :: ps, [], y, σ, ts, hC, _, hl, _ => by
    have : y = [] := List.eq_nil_of_length_eq_zero (by simpa using hl)
    subst this; simpa [setPs] using hC
  | p :: ps, v :: x, [], σ, ts, hC, _, hl, _ => by simp at hl
  | p :: ps, v :: x, z :: y, σ, ts, hC, hn, hl, hr => by
    obtain ⟨h1, h2⟩ := set_core (p := p) hC hn (hr 0 v z rfl rfl)
    have := setPs_core ps x y h1 h2 (by simpa using hl) fun j v z hv hz => hr (j + 1) v z (by simpa using hv) (by simpa using hz)
    simpa [setPs] using this
theorem boxesOf_ok : ∀ {caps : List V} {bs : List (List V)}, boxesOf caps = some bs → caps = bs.map .iptr
  | [], bs, h => by
    simp only [boxesOf, Option.some.injEq] at h
    subst h; rfl
  | c :: caps, bs, h => by
    unfold boxesOf at h
    split at h
    · simp at *
    · rename_i vs cs heq
      cases heq
      obtain ⟨bs', h1, rfl⟩ := Option.map_eq_some_iff.1 h
      rw [boxesOf_ok h1]; rfl
    · cases h
theorem clear_other {B b : Nat} {o : Go.Obj} (hB : B ≤ b) (h : H[b]? = some o) (ho : o.isCells = false) : (E.clear B H).tag b = .other := by
  unfold Env.clear
  simp only
  rw [if_neg]
  rintro (h1 | ⟨o', h1, h2⟩)
  · omega
  · rw [h] at h1; cases h1; rw [ho] at h2; cases h2
theorem turn_core {E0 Ek : Env} {W : World} (hC : CoreS n Ek σ [] ts [] W.heap) (hG : Grow m E0 w.heap Ek W.heap) (hf : ∀ b, w.heap.size ≤ b → E0.tag b = .other) {l : Nat} {o o' : Go.Obj} (hl : w.heap.size ≤ l) (ho : W.heap[l]? = some o) (hoc : o.isCells = false) :
    CoreS n (Ek.clear w.heap.size W.heap) σ [] ts [] (W.putObj l o').heap ∧ Grow m E0 w.heap (Ek.clear w.heap.size W.heap) (W.putObj l o').heap := by
  have hk : ∀ (b : Nat) (x : Go.Obj), W.heap[b]? = some x → (b < w.heap.size ∨ x.isCells = true) → (W.putObj l o').heap[b]? = some x := by
    intro b x hb hx
    refine (World.putObj_heap_other ?_).trans hb
    rintro rfl
    rcases hx with h | h
    · omega
    · rw [ho] at hb; cases hb; rw [hoc] at h; cases h
  exact ⟨clear_core hC (by simp) hk hG.size, clear_grow hf hG (by simp) hk rfl⟩
theorem range_sound {gop : Operand} {x : Opd} (hx : opd0 gop = some x) {site : Nat} {keep : Option (List Nat)} {ps : Array Tmp} {asg bod : Code} {stA stB : St → Option (Out × St)} {its : FuncId → Iter}
    (hits : ∀ g bs ar xs, its g bs = some (ar, xs) → ∃ run, IterOk P g run ∧ run bs = some (ar, xs))
    (hA : ∀ {l : Nat} {σ1 σ2 : St} {out : Out} {E1 : Env} {a1 : Act} {W1 : World} {Q : Exit → Act → World → Prop}, stA σ1 = some (out, σ2) → CoreS n E1 σ1 [] a1.tmps.toList [] W1.heap → NextD n (base + site) E1 σ2 a1 W1 (Q out.exit') → asg.wpIn (Fw (some l)) 3 P Q a1 W1)
    (hB : ∀ {l : Nat} {σ1 σ2 : St} {out : Out} {E1 : Env} {a1 : Act} {W1 : World} {Q : Exit → Act → World → Prop}, stB σ1 = some (out, σ2) → CoreS n E1 σ1 [] a1.tmps.toList [] W1.heap → NextD n (base + site) E1 σ2 a1 W1 (Q out.exit') → bod.wpIn (Fw (some l)) 3 P Q a1 W1)
    {out : Out} {Q : Exit → Act → World → Prop} (hC : CoreS n E σ [] a.tmps.toList [] w.heap)
    (hr : rangeGo its base site ps.toList.length keep (opdV x σ) σ (fun y σ1 => match stA (setPs ps.toList y σ1) with | some (.normal, σ2) => stB σ2 | _ => none) = some (out, σ')) (K : NextD n base E σ' a w (Q out.exit')) :
    (Code.rangeFunc gop ps asg bod).wpIn (Fw none) 5 P Q a w := by
  unfold rangeGo at hr
  split at hr
  · rename_i g caps hv
    split at hr
    · rename_i bs hbx
      split at hr
      · rename_i ar xs hxs
        split at hr
        case isFalse => cases hr
        rename_i har
        obtain ⟨one, hone⟩ : ∃ one : List V → St → Option (Out × St), one = (fun y σ1 => match stA (setPs ps.toList y σ1) with | some (.normal, σ2) => stB σ2 | _ => none) := ⟨_, rfl⟩
        rw [← hone] at hr
        obtain ⟨run, hok, hrun⟩ := hits g bs ar xs hxs
        have k1 := boxesOf_ok hbx
        obtain ⟨t, rfl⟩ : ∃ t, x = .tmp t := by
          cases x with
          | tmp t => exact ⟨t, rfl⟩
          | val v => simp [opdV] at hv
        have hgop : gop = .tmp t := by
          cases gop with
          | tmp k => simp only [opd0, Option.some.injEq, Opd.tmp.injEq] at hx; rw [hx]
          | const v => cases v <;> simp [opd0, Option.map_eq_some_iff] at hx
          | func f => simp [opd0] at hx
          | global g => simp [opd0] at hx
        subst hgop
        simp only [opdV] at hv
        have htn : t < n := by
          rcases Nat.lt_or_ge t n with h | h
          · exact h
          · rw [hC.slotBig (by omega)] at hv; cases hv
        have hS := hC.slotRel htn
        rw [hv] at hS
        obtain ⟨_, hR⟩ := rel_leaf hS rfl (fun g => by simp)
        have hev : a.eval (.tmp t) = a.tmps.toList.getD t undef := by simp [Act.eval, Array.getD_eq_getD_getElem?, List.getD_eq_getElem?_getD]
        have hf : ∃ ys : Array Value, a.eval (.tmp t) = .func (.func g) #[] ys ∧ caps.length = ys.size ∧ ∀ (i : Nat) (v : V) (y : Value), caps[i]? = some v → ys[i]? = some y → RelC E σ.objs w.heap v y := by
          rw [hev]
          generalize a.tmps.toList.getD t undef = y at hR
          simp only [List.append_nil] at hR
          cases hR with
          | imm _ _ h => cases h
          | func _ _ ys hn h => exact ⟨ys, rfl, hn, h⟩
        obtain ⟨lb, hlb, hll, hlr⟩ := hf
        obtain ⟨σ0, hσ0⟩ : ∃ σ0, σ0 = rangeSt keep (base + site) σ.slots σ := ⟨_, rfl⟩
        have hC1 := range_core (keep := keep) (m := base + site) hC hC (fun _ _ h => ⟨h, rfl⟩) (fun _ _ => rfl)
        rw [← hσ0] at hC1 hr
        have hC2 := hC1.1
        obtain ⟨E0, hE0⟩ : ∃ E0, E0 = E := ⟨_, rfl⟩
        have hG0 : ∀ b, Grow b E w.heap E0 w.heap := fun b => by rw [hE0]; exact Grow.refl _ _ _
        rw [← hE0] at hC2
        have hfresh : ∀ b, w.heap.size ≤ b → E0.tag b = .other := hC2.core.fresh
        obtain ⟨enc, henc, hgive⟩ := hok.gives bs xs ar hrun E0 lb w (by rw [← hll, k1]; simp) (fun i cs hi => by
          obtain ⟨y, hy⟩ : ∃ y, lb[i]? = some y := by
            have : i < lb.size := by have := lt_of_getElem? hi; rw [← hll, k1]; simpa using this
            exact ⟨lb[i], Array.getElem?_eq_getElem this⟩
          have := hlr i (.iptr cs) y (by rw [k1, List.getElem?_map, hi]; rfl) hy
          rw [hy, hE0]
          cases this with
          | imm _ _ h => cases h
          | iptr _ ad hs h => exact ⟨ad, rfl, hs, fun j u hj => (h j u hj).2⟩)
        have hxl : ∀ k, k < xs.length → ∃ x, xs[k]? = some x := fun k hk => exists_getElem? hk
        refine wpIn_range (n := 5) (hId := fun k W ⟨Ek, σk, i1, i2, i3, i4, i5⟩ => ⟨Ek, σk, i1, i2, i3, i4, ⟨i5.os, i5.output, i5.tape⟩⟩) (Kp := fun A B => A.heap.size ≤ B.heap.size ∧ ∀ b i, E0.imm b i → cellAt B.heap b i = cellAt A.heap b i) rfl (by omega) hlb trivial (fun args w => callFunc_run hok.enter) (hgive _ (fun A B C h k => ⟨Nat.le_trans h.1 k.1, fun b i hb => (k.2 b i hb).trans (h.2 b i hb)⟩) (fun A B h => h.2) fun A => ⟨Nat.le_refl _, fun _ _ _ => rfl⟩) ?_ ?_ ?_ ?_
          (fun k W => ∃ Ek σk, rounds one (rangeSt none (base + site) σ0.slots) (xs.drop k) σk = some (out, σ') ∧ CoreS n Ek σk [] a.tmps.toList [] W.heap ∧ (∀ v ∈ σk.slots, v.refs = []) ∧ Grow (base + site) E0 w.heap Ek W.heap ∧ WSame w W)
          (fun c W => ∃ Ek, ((∃ id, out = .exit id ∧ c = .exit id) ∨ (out = .ret ∧ c = .ret)) ∧ CoreS n Ek σ' [] a.tmps.toList [] W.heap ∧ Grow (base + site) E0 w.heap Ek W.heap ∧ WSame w W) ?_ ?_ ?_ ?_ ?_ ?_ ?_
        · rintro A B C ⟨h1, h3⟩ ⟨h4, h6⟩
          exact ⟨Nat.le_trans h1 h4, fun b i h => (h6 b i h).trans (h3 b i h)⟩
        · intro W l o o' hl ho hoc
          have hne : ∀ b, E0.tag b ≠ .other → b ≠ l := fun b h e => h (hfresh b (by omega))
          have hsm : ∀ b, b ≠ l → (W.putObj l o').heap[b]? = W.heap[b]? := fun b h => World.putObj_heap_other h
          refine ⟨by simp, fun b i h => ?_⟩
          unfold cellAt
          rw [hsm b (hne b (by intro e; simp [Env.imm, e] at h))]
        · intro W o hs
          have hsm : ∀ b, b < w.heap.size → (W.alloc o).heap[b]? = W.heap[b]? := fun b h => Below.heap_alloc W o b (by omega)
          have hne : ∀ b, E0.tag b ≠ .other → b < w.heap.size := fun b h => by
            rcases Nat.lt_or_ge b w.heap.size with h1 | h1
            · exact h1
            · exact absurd (hfresh b h1) h
          refine ⟨by simp, fun b i h => ?_⟩
          unfold cellAt
          rw [hsm b (hne b (by intro e; simp [Env.imm, e] at h))]
        · intro k hk
          obtain ⟨x, hx⟩ := hxl k hk
          rw [(henc k x hx).2.1, har]; simp
        · rintro k W l o o' hl ⟨Ek, σk, i1, i2, i3, i4, i5⟩ ho hoc hoc'
          obtain ⟨j1, j2⟩ := turn_core (o' := o') i2 i4 hfresh hl ho hoc
          exact ⟨_, σk, i1, j1, i3, j2, ⟨i5.os, i5.output, i5.tape⟩⟩
        · rintro c W l o o' hl ⟨Ek, i1, i2, i4, i5⟩ ho hoc hoc'
          obtain ⟨j1, j2⟩ := turn_core (o' := o') i2 i4 hfresh hl ho hoc
          exact ⟨_, i1, j1, j2, ⟨i5.os, i5.output, i5.tape⟩⟩
        · exact ⟨E0, σ0, hr, hC2, hC1.2, Grow.refl _ _ _, WSame.refl _⟩
        · rintro W o hoc ⟨Ek, σk, i1, i2, i3, i4, i5⟩
          have hk : ∀ (b : Nat) (x : Go.Obj), W.heap[b]? = some x → (b < w.heap.size ∨ x.isCells = true) → (W.alloc o).heap[b]? = some x := fun b x hb _ => (Below.heap_alloc W o b (Array.getElem?_eq_some_iff.1 hb).1).trans hb
          exact ⟨_, σk, i1, clear_core i2 (by simp) hk i4.size, i3, clear_grow hfresh i4 (by simp) hk rfl, ⟨i5.os, i5.output, i5.tape⟩⟩
        · rintro l k W hl ⟨Ek, σk, i1, i2, i3, i4, i5⟩ hk
          obtain ⟨x, hx⟩ := hxl k hk
          have hdrop : xs.drop k = x :: xs.drop (k + 1) := by
            rw [List.drop_eq_getElem_cons hk, (List.getElem_eq_iff hk).2 hx]
          rw [hdrop] at i1
          simp only [rounds] at i1
          have hkk : ∀ (b : Nat) (y : Go.Obj), W.heap[b]? = some y → (b < w.heap.size ∨ y.isCells = true) → W.heap[b]? = some y := fun _ _ h _ => h
          have j2 := clear_core i2 (Nat.le_refl _) hkk i4.size
          have j4 := clear_grow hfresh i4 (Nat.le_refl _) hkk rfl
          obtain ⟨E1, hE1⟩ : ∃ E1, E1 = Ek.clear w.heap.size W.heap := ⟨_, rfl⟩
          have hoth : ∀ b y, w.heap.size ≤ b → W.heap[b]? = some y → y.isCells = false → E1.tag b = .other := fun b y h1 h2 h3 => by rw [hE1]; exact clear_other h1 h2 h3
          rw [← hE1] at j2 j4
          obtain ⟨q1, q2, q3⟩ := henc k x hx
          have hset := setPs_core (n := n) ps.toList x (enc k).toList j2 i3 (by rw [q1]; simpa using q2) (fun j v z hv hz => by
            obtain ⟨e1, e2⟩ := q3 j v z hv (by simpa using hz)
            exact ⟨e1, fun j u z hu hz => ⟨(e2 j u z hu hz).1, (e2 j u z hu hz).2.mono fun b i h => j4.imm b i h⟩⟩)
          rw [← pfold_sets2] at hset
          have hone' : ∀ {o2 : Out} {σ3 : St}, one x σk = some (o2, σ3) → ∃ σ2, stA (setPs ps.toList x σk) = some (.normal, σ2) ∧ stB σ2 = some (o2, σ3) := by
            intro o2 σ3 h
            rw [hone] at h
            simp only at h
            split at h
            · exact ⟨_, by assumption, h⟩
            · cases h
          cases hx1 : one x σk with
          | none => rw [hx1] at i1; cases i1
          | some r =>
            obtain ⟨o2, σ3⟩ := r
            rw [hx1] at i1
            obtain ⟨σ2, s1, s2⟩ := hone' hx1
            refine hA (l := l) s1 hset ?_
            intro E2 a2 W2 c1 c2 c3 _
            have hKp2 : KeepsFrom w.heap.size W W2 ∧ (W.heap.size ≤ W2.heap.size ∧ ∀ b i, E0.imm b i → cellAt W2.heap b i = cellAt W.heap b i) := by
              refine ⟨⟨c2.size, fun b y hb hy hyc => ((c2.other b (Array.getElem?_eq_some_iff.1 hy).1 (hoth b y hb hy hyc)).2).trans hy⟩, c2.size, fun b i h => (c2.imm b i (j4.imm b i h).1).2⟩
            refine ⟨hKp2.1, hKp2.2, fun o o0 ho hoc hoc' => ?_⟩
            obtain ⟨t1, t2⟩ := turn_core (o' := o) c1 (j4.trans c2) hfresh hl ho hoc
            have hoth3 : ∀ b y, w.heap.size ≤ b → (W2.putObj l o).heap[b]? = some y → y.isCells = false → (E2.clear w.heap.size W2.heap).tag b = .other := by
              intro b y h1 h2 h3
              by_cases hbl : b = l
              · subst hbl; exact clear_other h1 ho hoc
              · rw [World.putObj_heap_other hbl] at h2
                exact clear_other h1 h2 h3
            refine hB (l := l) s2 t1 ?_
            intro E3 a3 W3 d1 d2 d3 _
            have hKp3 : KeepsFrom w.heap.size (W2.putObj l o) W3 ∧ ((W2.putObj l o).heap.size ≤ W3.heap.size ∧ ∀ b i, E0.imm b i → cellAt W3.heap b i = cellAt (W2.putObj l o).heap b i) := by
              refine ⟨⟨d2.size, fun b y hb hy hyc => ((d2.other b (Array.getElem?_eq_some_iff.1 hy).1 (hoth3 b y hb hy hyc)).2).trans hy⟩, d2.size, fun b i h => (d2.imm b i (t2.imm b i h).1).2⟩
            have hG3 : Grow (base + site) E0 w.heap E3 W3.heap := t2.trans d2
            have hW3 : WSame w W3 := (i5.trans c3).trans ⟨d3.os, d3.output, d3.tape⟩
            have hC3 := range_core (keep := none) (m := base + site) hC2 d1 (fun b i h => hG3.imm b i h) (fun o h => hG3.addr o h)
            cases o2 with
            | normal => exact ⟨hKp3.1, hKp3.2, E3, _, i1, hC3.1, hC3.2, hG3, hW3⟩
            | exit id =>
              simp only [Option.some.injEq, Prod.mk.injEq] at i1
              obtain ⟨e1, e2⟩ := i1
              exact ⟨hKp3.1, E3, .inl ⟨id, e1.symm, rfl⟩, e2 ▸ hC3.1, hG3, hW3⟩
            | ret =>
              simp only [Option.some.injEq, Prod.mk.injEq] at i1
              obtain ⟨e1, e2⟩ := i1
              exact ⟨hKp3.1, E3, .inr ⟨e1.symm, rfl⟩, e2 ▸ hC3.1, hG3, hW3⟩
        · rintro D W hD ⟨Ek, σk, i1, i2, i3, i4, i5⟩ hDd
          rw [List.drop_length] at i1
          simp only [rounds, Option.some.injEq, Prod.mk.injEq] at i1
          obtain ⟨rfl, rfl⟩ := i1
          have hkk : ∀ (b : Nat) (y : Go.Obj), W.heap[b]? = some y → (b < w.heap.size ∨ y.isCells = true) → W.heap[b]? = some y := fun _ _ h _ => h
          have j2 := clear_core i2 (Nat.le_refl _) hkk i4.size
          have j4 := clear_grow hfresh i4 (Nat.le_refl _) hkk rfl
          exact K _ _ W j2 ((hG0 base).trans (j4.less (Nat.le_add_right _ _))) i5 ⟨[D], by simp, by simp, fun D' h => by simp at h; subst h; exact ⟨hD, clear_other hD hDd rfl, hDd⟩⟩
        · rintro D c W hD ⟨Ek, i1, i2, i4, i5⟩ hDd
          have hkk : ∀ (b : Nat) (y : Go.Obj), W.heap[b]? = some y → (b < w.heap.size ∨ y.isCells = true) → W.heap[b]? = some y := fun _ _ h _ => h
          have j2 := clear_core i2 (Nat.le_refl _) hkk i4.size
          have j4 := clear_grow hfresh i4 (Nat.le_refl _) hkk rfl
          have hK := K _ { a with defers := { target := .collected D, args := #[] } :: a.defers } W j2 ((hG0 base).trans (j4.less (Nat.le_add_right _ _))) i5 ⟨[D], by simp, by simp, fun D' h => by simp at h; subst h; exact ⟨hD, clear_other hD hDd rfl, hDd⟩⟩
          rcases i1 with ⟨id, rfl, rfl⟩ | ⟨rfl, rfl⟩
          · exact wpIn_exit hK
          · exact wpIn_ret hK
      · cases hr
    · cases hr
  · cases hr
end
end Go.Vq
namespace Go.Vq
section
variable {P : Program} {n : Nat} {G : VProg}
theorem NextD.then {base : Nat} {E E1 : Env} {σ' : St} {a a1 : Act} {w w1 : World} {next : Act → World → Prop} (K : NextD n base E σ' a w next) (hG : Grow base E w.heap E1 w1.heap) (hW : WSame w w1) (hM : Marks w.heap.size E1 a.defers a1.defers w1.heap) :
    NextD n base E1 σ' a1 w1 next := fun E2 a2 w2 h1 h2 h3 h4 => K E2 a2 w2 h1 (hG.trans h2) (hW.trans h3) (hM.trans h2 h4 hG.size)
theorem itersOf_some {g : FuncId} {bs : List (List V)} {r : Nat × List (List V)} (h : itersOf G g bs = some r) : ∃ run, G g = some (.iter run) ∧ run bs = some r := by
  unfold itersOf at h
  cases hg : G g with
  | none => rw [hg] at h; cases h
  | some d =>
    rw [hg] at h
    cases d <;> first | (cases h; done) | exact ⟨_, rfl, h⟩
theorem code_sound {M : Nat} (hcall : ∀ k, k ≤ M → CalleeOk P (call G k)) (hits : ∀ g run, G g = some (.iter run) → IterOk P g run) : ∀ (c : Code) {r : Bool} {site m : Nat} {vc : VCode}, cCode P r site c = some (m, vc.strip) → ∀ {ro : Option Nat}, (r = false → ro = none) → ∀ {base k : Nat}, k ≤ M →
    ∀ {nf : Nat} {E : Env} {σ σ' : St} {out : Out} {a : Act} {w : World} {Q : Exit → Act → World → Prop},
    step (call G k) (itersOf G) (exec G k) base vc σ = some (out, σ') → CoreS n E σ [] a.tmps.toList [] w.heap → NextD n base E σ' a w (Q out.exit') → c.wpIn (Fw ro) nf P Q a w
  | .skip, r, site, m, vc, hc, ro, hro, base, k, hk, nf, E, σ, σ', out, a, w, Q, hr, hC, K => by
    simp only [cCode, Option.some.injEq, Prod.mk.injEq] at hc
    cases vc <;> simp only [VCode.strip, reduceCtorEq, and_false] at hc
    simp only [step, Option.some.injEq, Prod.mk.injEq] at hr
    obtain ⟨rfl, rfl⟩ := hr
    exact wpIn_skip (K E a w hC (Grow.refl _ _ _) (WSame.refl _) (.refl rfl))
  | .region id ops draw, r, site, m, vc, hc, ro, hro, base, k, hk, nf, E, σ, σ', out, a, w, Q, hr, hC, K => by
    simp only [cCode, Option.bind_eq_bind, Option.pure_def] at hc
    obtain ⟨⟨m', l⟩, h1, hc⟩ := Option.bind_eq_some_iff.1 hc
    dsimp only at hc
    have hord : (draw && !ordOk ops) = false := by
      cases hord : draw && !ordOk ops with
      | false => rfl
      | true => rw [hord] at hc; simp at hc
    rw [hord] at hc
    simp only [Bool.false_eq_true, if_false] at hc
    simp only [Option.some.injEq, Prod.mk.injEq] at hc
    cases vc <;> simp only [VCode.strip, reduceCtorEq, and_false] at hc
    rename_i vs draw' _
    obtain ⟨h2, h3⟩ := hc
    cases h3
    simp only [step, Option.map_eq_some_iff] at hr
    obtain ⟨σ1, h4, h5⟩ := hr
    cases h5
    exact region_sound (hcall k hk) h1 hord hC h4 K.of
  | .seq x y, r, site, m, vc, hc, ro, hro, base, k, hk, nf, E, σ, σ', out, a, w, Q, hr, hC, K => by
    simp only [cCode, Option.bind_eq_bind, Option.pure_def] at hc
    obtain ⟨⟨m1, l1⟩, h1, hc⟩ := Option.bind_eq_some_iff.1 hc
    obtain ⟨⟨m2, l2⟩, h2, hc⟩ := Option.bind_eq_some_iff.1 hc
    simp only [Option.some.injEq, Prod.mk.injEq] at hc
    cases vc <;> simp only [VCode.strip, reduceCtorEq, and_false] at hc
    rename_i va vb _ _
    obtain ⟨_, h3⟩ := hc
    cases h3
    simp only [step] at hr
    refine wpIn_seq ?_
    cases hx : step (call G k) (itersOf G) (exec G k) base va σ with
    | none => rw [hx] at hr; cases hr
    | some q =>
      obtain ⟨o1, σ1⟩ := q
      rw [hx] at hr
      refine code_sound hcall hits x h1 hro hk hx hC fun E1 a1 w1 c1 c2 c3 c4 => ?_
      cases o1 with
      | normal =>
        simp only [Out.exit', Exit.then]
        exact code_sound hcall hits y h2 hro hk hr c1 (K.then c2 c3 c4)
      | exit id => cases hr; exact K E1 a1 w1 c1 c2 c3 c4
      | ret => cases hr; exact K E1 a1 w1 c1 c2 c3 c4
  | .cond c x y, r, site, m, vc, hc, ro, hro, base, k, hk, nf, E, σ, σ', out, a, w, Q, hr, hC, K => by
    simp only [cCode, Option.bind_eq_bind, Option.pure_def] at hc
    obtain ⟨c', h0, hc⟩ := Option.bind_eq_some_iff.1 hc
    obtain ⟨⟨m1, l1⟩, h1, hc⟩ := Option.bind_eq_some_iff.1 hc
    obtain ⟨⟨m2, l2⟩, h2, hc⟩ := Option.bind_eq_some_iff.1 hc
    simp only [Option.some.injEq, Prod.mk.injEq] at hc
    cases vc <;> simp only [VCode.strip, reduceCtorEq, and_false] at hc
    rename_i c2 va vb _
    obtain ⟨_, h3⟩ := hc
    cases h3
    simp only [step] at hr
    split at hr
    · rename_i hb
      exact wpIn_cond_true (condV_sound hC h0 hb) (code_sound hcall hits x h1 hro hk hr hC K)
    · rename_i hb
      exact wpIn_cond_false (condV_sound hC h0 hb) (code_sound hcall hits y h2 hro hk hr hC K)
    · cases hr
  | .block id x, r, site, m, vc, hc, ro, hro, base, k, hk, nf, E, σ, σ', out, a, w, Q, hr, hC, K => by
    simp only [cCode, Option.bind_eq_bind, Option.pure_def] at hc
    obtain ⟨⟨m1, l1⟩, h1, hc⟩ := Option.bind_eq_some_iff.1 hc
    simp only [Option.some.injEq, Prod.mk.injEq] at hc
    cases vc <;> simp only [VCode.strip, reduceCtorEq, and_false] at hc
    rename_i id' keep va _
    obtain ⟨_, h3⟩ := hc
    cases h3
    simp only [step] at hr
    refine wpIn_block ?_
    cases hx : step (call G k) (itersOf G) (exec G k) base va σ with
    | none => rw [hx] at hr; cases hr
    | some q =>
      obtain ⟨o1, σ1⟩ := q
      rw [hx] at hr
      refine code_sound hcall hits x h1 hro hk hx hC fun E1 a1 w1 c1 c2 c3 c4 => ?_
      cases o1 with
      | normal => cases hr; exact K E1 a1 w1 (rebase_sound c1) c2 c3 c4
      | exit id2 =>
        dsimp only at hr
        simp only [Out.exit', Exit.inBlock]
        by_cases e : id2 = id
        · rw [if_pos e] at hr ⊢; cases hr; exact K E1 a1 w1 (rebase_sound c1) c2 c3 c4
        · rw [if_neg e] at hr ⊢; cases hr; exact K E1 a1 w1 c1 c2 c3 c4
      | ret => cases hr; exact K E1 a1 w1 c1 c2 c3 c4
  | .loop x, r, site, m, vc, hc, ro, hro, base, k, hk, nf, E, σ, σ', out, a, w, Q, hr, hC, K => by
    simp only [cCode, Option.bind_eq_bind, Option.pure_def] at hc
    obtain ⟨⟨m1, l1⟩, h1, hc⟩ := Option.bind_eq_some_iff.1 hc
    simp only [Option.some.injEq, Prod.mk.injEq] at hc
    cases vc <;> simp only [VCode.strip, reduceCtorEq, and_false] at hc
    rename_i keep va _
    obtain ⟨_, h3⟩ := hc
    cases h3
    refine wpIn_loop_fuel (m := k) (fun k' a' w' => ∃ E1 σ1, k' ≤ M ∧ step (call G k') (itersOf G) (exec G k') base (.loop keep va) σ1 = some (out, σ') ∧ CoreS n E1 σ1 [] a'.tmps.toList [] w'.heap ∧ Grow base E w.heap E1 w'.heap ∧ WSame w w' ∧ Marks w.heap.size E1 a.defers a'.defers w'.heap) ⟨E, σ, hk, hr, hC, Grow.refl _ _ _, WSame.refl _, .refl rfl⟩ ?_
    rintro k' a' w' ⟨E1, σ1, hk', hr', hC', hG', hW', hd'⟩
    simp only [step] at hr'
    cases hx : step (call G k') (itersOf G) (exec G k') base va (rebase? keep base σ1) with
    | none => rw [hx] at hr'; cases hr'
    | some q =>
      obtain ⟨o1, σ2⟩ := q
      rw [hx] at hr'
      refine code_sound hcall hits x h1 hro hk' hx (rebase_sound hC') fun E2 a2 w2 c1 c2 c3 c4 => ?_
      have hG2 := hG'.trans c2
      have hW2 := hW'.trans c3
      have hM2 := hd'.trans c2 c4 hG'.size
      cases o1 with
      | normal =>
        simp only at hr'
        cases k' with
        | zero => simp only [exec] at hr'; cases hr'
        | succ k'' =>
          simp only [exec] at hr'
          exact ⟨k'', Nat.lt_succ_self _, E2, σ2, by omega, hr', c1, hG2, hW2, hM2⟩
      | exit id => cases hr'; exact K E2 a2 w2 c1 hG2 hW2 hM2
      | ret => cases hr'; exact K E2 a2 w2 c1 hG2 hW2 hM2
  | .scope x, r, site, m, vc, hc, ro, hro, base, k, hk, nf, E, σ, σ', out, a, w, Q, hr, hC, K => by
    simp only [cCode] at hc
    refine wpIn_scope ?_
    refine code_sound hcall hits x hc hro hk hr hC fun E1 a1 w1 c1 c2 c3 c4 => ?_
    have := K E1 a1 w1 c1 c2 c3 c4
    cases out <;> exact this
  | .exit id, r, site, m, vc, hc, ro, hro, base, k, hk, nf, E, σ, σ', out, a, w, Q, hr, hC, K => by
    simp only [cCode, Option.some.injEq, Prod.mk.injEq] at hc
    cases vc <;> simp only [VCode.strip, reduceCtorEq, and_false] at hc
    obtain ⟨_, h3⟩ := hc
    cases h3
    simp only [step, Option.some.injEq, Prod.mk.injEq] at hr
    obtain ⟨rfl, rfl⟩ := hr
    exact wpIn_exit (K E a w hC (Grow.refl _ _ _) (WSame.refl _) (.refl rfl))
  | .ret, r, site, m, vc, hc, ro, hro, base, k, hk, nf, E, σ, σ', out, a, w, Q, hr, hC, K => by
    simp only [cCode, Option.some.injEq, Prod.mk.injEq] at hc
    cases vc <;> simp only [VCode.strip, reduceCtorEq, and_false] at hc
    simp only [step, Option.some.injEq, Prod.mk.injEq] at hr
    obtain ⟨rfl, rfl⟩ := hr
    exact wpIn_ret (K E a w hC (Grow.refl _ _ _) (WSame.refl _) (.refl rfl))
  | .rangeFunc g ps x y, false, site, m, vc, hc, ro, hro, base, k, hk, nf, E, σ, σ', out, a, w, Q, hr, hC, K => by
    simp only [cCode, Option.bind_eq_bind, Option.pure_def] at hc
    obtain ⟨g', h0, hc⟩ := Option.bind_eq_some_iff.1 hc
    obtain ⟨⟨m1, l1⟩, h1, hc⟩ := Option.bind_eq_some_iff.1 hc
    obtain ⟨⟨m2, l2⟩, h2, hc⟩ := Option.bind_eq_some_iff.1 hc
    simp only [Option.some.injEq, Prod.mk.injEq] at hc
    cases vc <;> simp only [VCode.strip, reduceCtorEq, and_false] at hc
    rename_i g2 ps' site' keep va vb _ _ _
    obtain ⟨_, h3⟩ := hc
    cases h3
    obtain rfl := hro rfl
    simp only [step] at hr
    refine wpIn_any (n := 5) (range_sound (stA := fun σ1 => step (call G k) (itersOf G) (exec G k) (base + site) va σ1) (stB := fun σ1 => step (call G k) (itersOf G) (exec G k) (base + site) vb σ1) h0 (fun g bs ar xs h => ?_) (fun h1' h2' h3' => ?_) (fun h1' h2' h3' => ?_) hC hr K)
    · obtain ⟨run, e1, e2⟩ := itersOf_some h
      exact ⟨run, hits _ _ e1, e2⟩
    · exact code_sound hcall hits x h1 (fun h => by cases h) hk h1' h2' h3'
    · exact code_sound hcall hits y h2 (fun h => by cases h) hk h1' h2' h3'
  | .rangeFunc .., true, _, _, _, hc, _, _, _, _, _, _, _, _, _, _, _, _, _, hr, _, _ => (bad_run hc hr).elim
  | .label .., r, _, _, _, hc, _, _, _, _, _, _, _, _, _, _, _, _, _, hr, _, _ => by cases r <;> (simp only [cCode] at hc; exact (bad_run hc hr).elim)
  | .goto .., r, _, _, _, hc, _, _, _, _, _, _, _, _, _, _, _, _, _, hr, _, _ => by cases r <;> (simp only [cCode] at hc; exact (bad_run hc hr).elim)
  | .refuse .., r, _, _, _, hc, _, _, _, _, _, _, _, _, _, _, _, _, _, hr, _, _ => by cases r <;> (simp only [cCode] at hc; exact (bad_run hc hr).elim)
end
end Go.Vq
namespace Go.Vq
section
variable {P : Program} {n base : Nat} {E E' E2 : Env} {σ σ' : St} {hs : List V} {ts xs : List Value} {H H' H2 : Array Go.Obj}
variable {a : Act} {w : World} {G : VProg}
theorem res1_Sound {b : Nat} : Sound1 n base (res1 b) (fun u => ∀ g, u ≠ .gone g) := by
  intro E σ σ' hs ts xs H w x h i u k hC hu hr
  have hS := hand_rel hC
  have hsame : w.withLeaves (w.leaves.set i u) = w := by rw [set_same hu, withLeaves_same hS.formed]
  have hul := hS.leafs u (List.mem_of_getElem? hu)
  have hid : (∀ g, u ≠ .gone g) → (k u).run σ = some σ' → ∃ E1 σ1 u', CoreS n E1 σ1 (hs ++ [w.withLeaves (w.leaves.set i u')]) ts (xs ++ [x]) H ∧ Grow base E H E1 H ∧ E1.addr = E.addr ∧ (k u').run σ1 = some σ' ∧ u'.leaf = true ∧ ∀ g, u' ≠ .gone g :=
    fun hg hr => ⟨E, σ, u, by rw [hsame]; exact hC, Grow.refl _ _ _, rfl, hr, hul, hg⟩
  have hstay : ∀ u', (∀ g, u' ≠ .gone g) → (k u').run σ = some σ' → u'.leaf = true → u'.refs1 = [] → (∀ g, u ≠ .gone g) → (∀ slots' y, RelV E (σ.slots ++ (hs ++ [w])) σ.objs (ts ++ (xs ++ [x])) H (.slot (n + hs.length) i) u y → RelV E slots' σ.objs (ts ++ (xs ++ [x])) H (.slot (n + hs.length) i) u' y) →
      ∃ E1 σ1 u', CoreS n E1 σ1 (hs ++ [w.withLeaves (w.leaves.set i u')]) ts (xs ++ [x]) H ∧ Grow base E H E1 H ∧ E1.addr = E.addr ∧ (k u').run σ1 = some σ' ∧ u'.leaf = true ∧ ∀ g, u' ≠ .gone g := by
    intro u' hg' hr h1 h2 hg h5
    refine ⟨E, σ, u', ?_, Grow.refl _ _ _, rfl, hr, h1, hg'⟩
    exact hC.turnHand hu hg ⟨h1, h2⟩ rfl (fun _ _ h => h) (fun _ _ _ _ _ _ h => h) (fun _ _ _ _ _ _ _ h => h) (fun _ _ h => h) (fun _ h => h) (fun y _ hR slots' => h5 slots' y hR)
  cases u <;> first
    | exact hid (fun g => by simp) hr
    | (cases hr; done)
    | skip
  case isl g sz es =>
    refine hstay (.isl 0 sz es) (fun g => by simp) hr rfl rfl (fun g => by simp) fun slots' y hR => ?_
    simp only [RelV] at hR ⊢
    cases hR with
    | isl _ _ _ a cap xs hc ha hsp hz hx h => exact .isl _ _ _ a cap xs hc ha hsp hz hx h
  case xsl g sz es => exact hstay (.xsl 0 sz es) (fun g => by simp) hr rfl rfl (fun g => by simp) fun slots' y hR => hR
  case fsl g sz es => exact hstay (.fsl 0 sz es) (fun g => by simp) hr rfl rfl (fun g => by simp) fun slots' y hR => hR
  case csl sz es => exact hstay (.isl 0 sz es) (fun g => by simp) hr rfl rfl (fun g => by simp) fun slots' y hR => hR.1
  case nilS sz =>
    refine hstay (.xsl 0 sz []) (fun g => by simp) hr rfl rfl (fun g => by simp) fun slots' y hR => ?_
    have e := relV_toVal hR rfl
    subst e
    exact ⟨none, 0, rfl, Nat.le_refl _, fun _ => rfl, fun _ h => (by cases h), fun h => absurd rfl h, Elems.nil _ _ _ _⟩
  case srf hh g sz off len =>
    obtain ⟨X, hX⟩ : ∃ X, res1 b h (.srf hh g sz off len) k = settle1 X (.srf hh g sz off len) k := ⟨_, rfl⟩
    rw [hX] at hr
    have hr2 : (settle1 X (.srf hh g sz off len) fun v => match v with | .gone _ => .fail | v => k v).run σ = some σ' := by
      have e : ∀ es : List V, (match (if off + len = es.length then V.fsl 0 sz ((es.drop off).take len) else V.isl 0 sz ((es.drop off).take len)) with | .gone _ => .fail | v => k v) = k (if off + len = es.length then V.fsl 0 sz ((es.drop off).take len) else V.isl 0 sz ((es.drop off).take len)) := by
        intro es
        by_cases hc : off + len = es.length
        · simp only [if_pos hc]
        · simp only [if_neg hc]
      simp only [settle1, e] at hr ⊢
      exact hr
    obtain ⟨E1, σ1, u', h1, h2, h3, h4, h5, _, _⟩ := settle1_sound (base := base) hC hu hr2
    cases u' <;> first
      | (cases h4; done)
      | exact ⟨E1, σ1, _, h1, h2, h3, h4, h5, fun g => by simp⟩
theorem ress_sound {b : Nat} {v : V} {x : Value} {k : V → Prog} (hnt : ∀ vs, v ≠ .tup vs) (hC : CoreS n E σ (hs ++ [v]) ts (xs ++ [x]) H) (hr : (ress b v.leaves fun ls => k (v.withLeaves ls)).run σ = some σ') :
    ∃ E1 σ1 v', CoreS n E1 σ1 (hs ++ [v']) ts (xs ++ [x]) H ∧ Grow base E H E1 H ∧ (k v').run σ1 = some σ' ∧ (v'.leaf = true ∨ ∃ cs, v' = .agg cs) ∧ ∀ g, v' ≠ .gone g := by
  obtain ⟨E1, σ1, ls, c1, c2, c3, c4, c5, c6⟩ := list_sound (base := base) (res1_Sound (b := b)) (fun _ _ vs k => ress b vs k) (fun _ _ _ => rfl) (fun _ _ _ _ _ => rfl) (fun _ => none) v.leaves [] hC rfl hr
  refine ⟨E1, σ1, _, c1, c2, c4, ?_⟩
  rw [List.nil_append]
  by_cases hl : v.leaf = true
  · rw [withLeaves_leaf hl]
    rw [leaves_leaf hl] at c5
    cases ls with
    | nil => simp at c5
    | cons l ls => exact ⟨.inl (c6 l (by simp)).1, (c6 l (by simp)).2⟩
  · cases v <;> first | exact absurd rfl hl | exact absurd rfl (hnt _) | exact ⟨.inr ⟨_, rfl⟩, fun g => by simp [V.withLeaves]⟩
def ResIs (P : Program) (w : World) (tmps : Array Value) (r : ResultVar) (x : Value) : Prop :=
  match r with
  | .tmp t => tmps.getD t undef = x
  | .cell a t => ∃ ad, tmps.getD a undef = .pointer (some ad) ∧ (loadVar t ad).run P w = .ok x w
theorem getRes_sound {b : Nat} {r : ResultVar} {v : VRes} {k : V → Prog} (hc : cRes P r = some v) (hC : CoreS n E σ hs a.tmps.toList xs w.heap) (hr : (getRes b v k).run σ = some σ') :
    ∃ E1 σ1 u x, CoreS n E1 σ1 (hs ++ [u]) a.tmps.toList (xs ++ [x]) w.heap ∧ Grow base E w.heap E1 w.heap ∧ (k u).run σ1 = some σ' ∧ ResIs P w a.tmps r x ∧ (u.leaf = true ∨ ∃ cs, u = .agg cs) ∧ ∀ g, u ≠ .gone g := by
  cases r with
  | tmp t =>
    simp only [cRes, Option.some.injEq] at hc
    subst hc
    simp only [getRes] at hr
    have hok : OpdOk a.tmps.toList (.tmp t) (a.tmps.getD t undef) := by simp [OpdOk, Array.getD_eq_getD_getElem?, List.getD_eq_getElem?_getD]
    obtain ⟨v, hr2, hv, hrf, h1, h2⟩ := opd_rel (v := .nil) hC hok hr
    clear hr
    have hr3 : (∀ vs, v ≠ .tup vs) ∧ (drain (.tmp t) <| ress b v.leaves fun ls => k (v.withLeaves ls)).run σ = some σ' := by
      cases v <;> first | exact ⟨fun vs => by simp, hr2⟩ | (cases hr2; done)
    obtain ⟨hnt, hr3⟩ := hr3
    obtain ⟨E1, σ1, b1, b2, _, b4⟩ := grab_sound (base := base) hC hv hrf h1 h2 hok hr3
    obtain ⟨E2, σ2, u, c1, c2, c3, c4⟩ := ress_sound (base := base) hnt b1 b4
    exact ⟨E2, σ2, u, _, c1, b2.trans c2, c3, rfl, c4⟩
  | cell c t =>
    simp only [cRes, Option.bind_eq_bind, Option.pure_def] at hc
    obtain ⟨agg, ha, hc⟩ := Option.bind_eq_some_iff.1 hc
    obtain ⟨m, hs', hc⟩ := Option.bind_eq_some_iff.1 hc
    cases hc
    simp only [getRes] at hr
    have hok : OpdOk a.tmps.toList (.tmp c) (a.tmps.getD c undef) := by simp [OpdOk, Array.getD_eq_getD_getElem?, List.getD_eq_getElem?_getD]
    obtain ⟨u, hr, ⟨s, hS, hs''⟩, hrest⟩ := opd_rel (v := .nil) hC hok hr
    clear hrest hs''
    cases u <;> first | (cases hr; done) | skip
    rename_i r
    obtain ⟨_, hR⟩ := rel_leaf hS rfl (fun g => by simp)
    obtain ⟨ad, hx⟩ := (relE hS).1 r rfl
    rw [hx] at hR
    have hsp := gCells_spot hC hR hr
    obtain ⟨cs, hr2, hl, hcs⟩ := gCells_sound hC hR hr
    obtain ⟨v, hv, hr3⟩ := optV_run hr2
    have hlen : cs.length = (cellsAt w.heap ad m).length := by rw [hl, cellsAt_len]
    obtain ⟨hC2, h1⟩ := hC.pushCells (ys := cellsAt w.heap ad m) hlen (fun j z y hz hy => by
      obtain ⟨y', e1, e2, e3, e4, e5⟩ := hcs j z hz
      rw [cellsAt_get (by rw [← hl]; exact lt_of_getElem? hz) e1] at hy; cases hy
      exact ⟨⟨.slot 0 0, e2 _⟩, e3, e4, e5⟩) hv
    have hload := loadVar_run (w := w) ha hs' hsp (fun j hj => by
      obtain ⟨y', e1, _⟩ := hcs j cs[j] (List.getElem?_eq_getElem (by omega))
      exact ⟨y', e1⟩) (fun h => by rw [← hl]; exact h1 h)
    have hnt : ∀ vs, v ≠ .tup vs := by
      rintro vs rfl
      cases agg with
      | true => simp [ofCells] at hv
      | false =>
        simp only [ofCells, Bool.false_eq_true, if_false] at hv
        split at hv
        · cases hv
          obtain ⟨_, _, _, _, e4, _⟩ := hcs 0 _ rfl
          cases e4
        · cases hv
    obtain ⟨E2, σ2, u, c1, c2, c3, c4⟩ := ress_sound (base := base) hnt hC2 hr3
    exact ⟨E2, σ2, u, _, c1, c2, c3, ⟨ad, hx, hload⟩, c4⟩
theorem getRess_sound {b : Nat} : ∀ {rs : List ResultVar} {vs : List VRes} {k : List V → Prog} {E : Env} {σ : St} {hs : List V} {xs : List Value}, rs.mapM (cRes P) = some vs → CoreS n E σ hs a.tmps.toList xs w.heap → (getRess b vs k).run σ = some σ' →
    ∃ E1 σ1 us ys, CoreS n E1 σ1 (hs ++ us) a.tmps.toList (xs ++ ys) w.heap ∧ Grow base E w.heap E1 w.heap ∧ (k us).run σ1 = some σ' ∧ us.length = rs.length ∧ ys.length = rs.length ∧ (∀ (i : Nat) (r : ResultVar) (y : Value), rs[i]? = some r → ys[i]? = some y → ResIs P w a.tmps r y) ∧ ∀ u ∈ us, (u.leaf = true ∨ ∃ cs, u = .agg cs) ∧ ∀ g, u ≠ .gone g
  | [], vs, k, E, σ, hs, xs, h, hC, hr => by
    simp at h; subst h
    exact ⟨E, σ, [], [], by simpa using hC, Grow.refl _ _ _, hr, rfl, rfl, (fun i r y h => by simp at h), fun u h => by cases h⟩
  | r :: rs, vs, k, E, σ, hs, xs, h, hC, hr => by
    rw [List.mapM_cons] at h
    simp only [Option.bind_eq_bind, Option.pure_def] at h
    obtain ⟨v0, h0, h⟩ := Option.bind_eq_some_iff.1 h
    obtain ⟨vs', h1, h⟩ := Option.bind_eq_some_iff.1 h
    cases h
    simp only [getRess] at hr
    obtain ⟨E1, σ1, u, x, b1, b2, b3, b4, b5⟩ := getRes_sound (base := base) h0 hC hr
    obtain ⟨E2, σ2, us, ys, c1, c2, c3, c4, c5, c6, c7⟩ := getRess_sound h1 b1 b3
    refine ⟨E2, σ2, u :: us, x :: ys, by simpa using c1, b2.trans c2, c3, by simp [c4], by simp [c5], fun i r' y hr' hy => ?_, fun v hv => ?_⟩
    · cases i with
      | zero => simp at hr' hy; subst hr' hy; exact b4
      | succ i => exact c6 i r' y (by simpa using hr') (by simpa using hy)
    · rcases List.mem_cons.1 hv with rfl | hv
      · exact b5
      · exact c7 v hv
def packX : List Value → Value
  | [y] => y
  | ys => .tuple ys.toArray
def resF (tmps : Array Value) : ResultVar → Sem Value
  | .tmp t => pure (tmps.getD t undef)
  | .cell a t => do loadVar t (← asAddr (tmps.getD a undef))
theorem resF_run {tmps : Array Value} {r : ResultVar} {y : Value} (h : ResIs P w tmps r y) : (resF tmps r).run P w = .ok y w := by
  cases r with
  | tmp t =>
    simp only [ResIs] at h
    simp only [resF, Sem.run_pure, h]
  | cell c t =>
    obtain ⟨ad, e1, e2⟩ := h
    simp only [resF, Sem.run_bind, e1, asAddr, Sem.run_pure, Result.andThen_ok, e2]
theorem results_eq (fn : Func) (tmps : Array Value) : results fn tmps = (do let vs ← fn.results.mapM (resF tmps); pure (if h : vs.size = 1 then vs[0] else .tuple vs)) := by
  unfold results
  congr 1
theorem results_run {fn : Func} {tmps : Array Value} {ys : List Value} (hl : ys.length = fn.results.toList.length) (h : ∀ (i : Nat) (r : ResultVar) (y : Value), fn.results.toList[i]? = some r → ys[i]? = some y → ResIs P w tmps r y) :
    (results fn tmps).run P w = .ok (packX ys) w := by
  have key : ∀ (rs : List ResultVar) (ys : List Value), ys.length = rs.length → (∀ (i : Nat) (r : ResultVar) (y : Value), rs[i]? = some r → ys[i]? = some y → ResIs P w tmps r y) →
      (rs.mapM (resF tmps)).run P w = .ok ys w := by
    intro rs
    induction rs with
    | nil => intro ys hl _; cases ys <;> simp at hl ⊢
    | cons r rs ih =>
      intro ys hl h
      cases ys with
      | nil => simp at hl
      | cons y ys =>
        have h1 := ih ys (by simpa using hl) fun i r y hr hy => h (i + 1) r y (by simpa using hr) (by simpa using hy)
        have h0 := resF_run (h 0 r y rfl rfl)
        rw [List.mapM_cons]
        simp only [Sem.run_bind, h0, Result.andThen_ok, h1, Sem.run_pure]
  have := key fn.results.toList ys hl h
  rw [results_eq, Array.mapM_eq_mapM_toList]
  simp only [Sem.run_bind, Sem.run_map, this, Result.andThen_ok, Sem.run_pure]
  congr 1
  cases ys with
  | nil => rfl
  | cons y ys => cases ys with
    | nil => rfl
    | cons z ys => simp [packX]
theorem CoreS.extend (hC : CoreS n E σ [] ts [] H) : CoreS (n + 1) E { σ with slots := σ.slots ++ [.gone 0] } [] (ts ++ [undef]) [] H := by
  have h0 := hC.core
  simp only [List.append_nil] at h0
  have h1 := h0.push (v := .gone 0) (x := undef) ⟨trivial, fun i u y hu _ => by
    cases i with
    | zero => simp [V.leaves] at hu; subst hu; trivial
    | succ i => simp [V.leaves] at hu⟩ (by intro r hr; simp [V.refs, V.leaves, V.refs1] at hr)
  refine ⟨by simp [hC.sl], by simp [hC.tl], ?_⟩
  simp only [List.append_nil]
  exact ⟨h1.len, by simp [hC.sl], h1.slot, h1.obj, h1.fresh, fun s v hv r hr => ⟨fun t i e => by have := (h1.refs s v hv r hr).1 t i e; omega, (h1.refs s v hv r hr).2⟩⟩
end
end Go.Vq
