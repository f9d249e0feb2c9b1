/- A machine of values and its tie to the model, and runs of it: part 13 of 18 (no law of Go is stated here). -/
import Derived.Test.YtbbpandancpibaaF12
import Derived.KernelRfl
set_option linter.unusedVariables false
set_option linter.unusedSimpArgs false
set_option linter.unusedSectionVars false
namespace Go.Vq
def PR (p : Prog) (σ : St) (rs ws : List Loc) (τ : St) : Prop := p.run σ = some τ ∧ p.foot σ = (rs, ws)
section
variable {σ τ : St} {rs ws : List Loc} {k : V → Prog} {p q : Prog} {t d : Nat} {v : V}
theorem PR_ret : PR .ret σ [] [] σ := ⟨rfl, rfl⟩
theorem PR_if {c : Prop} {_ : Decidable c} (hc : c) (h : PR p σ rs ws τ) : PR (if c then p else q) σ rs ws τ := by rw [if_pos hc]; exact h
theorem PR_else {c : Prop} {_ : Decidable c} (hc : ¬c) (h : PR q σ rs ws τ) : PR (if c then p else q) σ rs ws τ := by rw [if_neg hc]; exact h
theorem PR_ifT {b : Bool} {_ : Decidable (b = true)} (hb : b = true) (h : PR p σ rs ws τ) : PR (if b = true then p else q) σ rs ws τ := PR_if hb h
theorem PR_ifF {b : Bool} {_ : Decidable (b = true)} (hb : b = false) (h : PR q σ rs ws τ) : PR (if b = true then p else q) σ rs ws τ := PR_else (by rw [hb]; decide) h
theorem PR_ifN {a b : Option Nat} {_ : Decidable (a ≠ b)} (hb : a = b) (h : PR q σ rs ws τ) : PR (if a ≠ b then p else q) σ rs ws τ := PR_else (fun h => h hb) h
theorem PR_getS (h : σ.slots[t]? = some v) (h2 : PR (k v) σ rs ws τ) : PR (.getS t k) σ (.slot t :: rs) ws τ := by
  have e : σ.slot t = v := by unfold St.slot; rw [List.getD_eq_getElem?_getD, h]; rfl
  exact ⟨by simp only [Prog.run, e]; exact h2.1, by simp only [Prog.foot, e, h2.2]⟩
theorem PR_setS (h2 : PR p (σ.setS d v) rs ws τ) : PR (.setS d v p) σ rs (.slot d :: ws) τ := ⟨by simp only [Prog.run]; exact h2.1, by simp only [Prog.foot, h2.2]⟩
theorem PR_getO {o : Nat} {x : Option Obj} {k : Option Obj → Prog} (h : σ.objs[o]? = some x) (h2 : PR (k x) σ rs ws τ) : PR (.getO o k) σ (.obj o :: rs) ws τ := by
  have e : σ.obj o = x := by unfold St.obj; rw [List.getD_eq_getElem?_getD, h]; rfl
  exact ⟨by simp only [Prog.run, e]; exact h2.1, by simp only [Prog.foot, e, h2.2]⟩
theorem PR_setO {o : Nat} {x : Option Obj} (h : o < σ.objs.length) (h2 : PR p (σ.setO o x) rs ws τ) : PR (.setO o x p) σ rs (.obj o :: ws) τ := ⟨by simp only [Prog.run, if_pos h]; exact h2.1, by simp only [Prog.foot, h2.2]⟩
theorem PR_opdT (h : σ.slots[t]? = some v) (h2 : PR (k v) σ rs ws τ) : PR (gOpd (.tmp t) k) σ (.slot t :: rs) ws τ := PR_getS h h2
theorem PR_opdV (h2 : PR (k v) σ rs ws τ) : PR (gOpd (.val v) k) σ rs ws τ := h2
theorem PR_intT {k : Int → Prog} {kd : IntKind} {n : Int} (h : σ.slots[t]? = some (.int kd n)) (h2 : PR (k n) σ rs ws τ) : PR (gInt (.tmp t) k) σ (.slot t :: rs) ws τ := PR_getS h h2
theorem PR_intV {k : Int → Prog} {kd : IntKind} {n : Int} (h2 : PR (k n) σ rs ws τ) : PR (gInt (.val (.int kd n)) k) σ rs ws τ := h2
theorem PR_boolT {k : Bool → Prog} {b : Bool} (h : σ.slots[t]? = some (.bool b)) (h2 : PR (k b) σ rs ws τ) : PR (gBool (.tmp t) k) σ (.slot t :: rs) ws τ := PR_getS h h2
theorem PR_boolV {k : Bool → Prog} {b : Bool} (h2 : PR (k b) σ rs ws τ) : PR (gBool (.val (.bool b)) k) σ rs ws τ := h2
theorem PR_optV {o : Option V} (h : o = some v) (h2 : PR (k v) σ rs ws τ) : PR (optV o k) σ rs ws τ := by subst h; exact h2
theorem PR_put {old : V} {ls : List V} {u : V} (h : σ.slots[d]? = some old) (hp : regens old.leaves v.leaves = some ls) (hu : v.withLeaves ls = u) (h2 : PR p (σ.setS d u) rs ws τ) : PR (put d v p) σ (.slot d :: rs) (.slot d :: ws) τ := by
  subst hu
  refine PR_getS (k := fun old => match regens old.leaves v.leaves with | some ls => .setS d (v.withLeaves ls) p | none => .fail) h ?_
  rw [hp]
  exact PR_setS h2
theorem PR_putO {old : V} {ls : List V} {u : V} (h : σ.slots[d]? = some old) (hp : regens old.leaves v.leaves = some ls) (hu : v.withLeaves ls = u) (h2 : PR p (σ.setS d u) rs ws τ) : PR (putO (some d) v p) σ (.slot d :: rs) (.slot d :: ws) τ := PR_put h hp hu h2
theorem PR_putN (h2 : PR p σ rs ws τ) : PR (putO none v p) σ rs ws τ := h2
theorem PR_drainV (h2 : PR p σ rs ws τ) : PR (drain (.val v) p) σ rs ws τ := h2
theorem PR_drain0 (h : σ.slots[t]? = some v) (hx : v.hasX = false) (h2 : PR p σ rs ws τ) : PR (drain (.tmp t) p) σ (.slot t :: rs) ws τ := by
  refine PR_getS (k := fun v => if v.hasX then .setS t v.wipe p else p) h ?_
  rw [hx]; exact h2
theorem PR_drain1 {u : V} (h : σ.slots[t]? = some v) (hx : v.hasX = true) (hu : v.wipe = u) (h2 : PR p (σ.setS t u) rs ws τ) : PR (drain (.tmp t) p) σ (.slot t :: rs) (.slot t :: ws) τ := by
  subst hu
  refine PR_getS (k := fun v => if v.hasX then .setS t v.wipe p else p) h ?_
  rw [hx]; exact PR_setS h2
def elemsOf (g sz : Nat) : V → Option (Bool × List V)
  | .xsl g' sz' es => if g' = g ∧ sz' = sz then some (true, es) else none
  | .isl g' sz' es => if g' = g ∧ sz' = sz then some (false, es) else none
  | .fsl g' sz' es => if g' = g ∧ sz' = sz then some (false, es) else none
  | _ => none
def kEl (g sz : Nat) (k : Bool → List V → Prog) : V → Prog
  | .xsl g' sz' es => if g' = g ∧ sz' = sz then k true es else .fail
  | .isl g' sz' es => if g' = g ∧ sz' = sz then k false es else .fail
  | .fsl g' sz' es => if g' = g ∧ sz' = sz then k false es else .fail
  | _ => .fail
theorem gElems_k (h : Home) (g sz : Nat) (k : Bool → List V → Prog) : gElems h g sz k = gHome h (kEl g sz k) := by
  unfold gElems
  congr 1
theorem elemsOf_prog {g sz : Nat} {hv : V} {own : Bool} {es : List V} {k : Bool → List V → Prog} (h : elemsOf g sz hv = some (own, es)) : kEl g sz k hv = k own es := by
  cases hv <;> simp only [elemsOf] at h
  case isl => split at h; · rename_i hc; cases h; simp only [kEl, hc, and_self, if_true]
              · cases h
  case xsl => split at h; · rename_i hc; cases h; simp only [kEl, hc, and_self, if_true]
              · cases h
  case fsl => split at h; · rename_i hc; cases h; simp only [kEl, hc, and_self, if_true]
              · cases h
  all_goals cases h
theorem PR_homeS {off s : Nat} {x : V} (h : σ.slots[s]? = some v) (hl : v.leaves[off]? = some x) (h2 : PR (k x) σ rs ws τ) : PR (gHome (.slot s off) k) σ (.slot s :: rs) ws τ := by
  refine PR_getS (k := fun v => match v.leaves[off]? with | some x => k x | none => .fail) h ?_
  rw [hl]; exact h2
theorem PR_homeO {off o : Nat} {x : V} {cs : List V} (h : σ.objs[o]? = some (some (.cells cs))) (hl : cs[off]? = some x) (h2 : PR (k x) σ rs ws τ) : PR (gHome (.obj o off) k) σ (.obj o :: rs) ws τ := by
  refine PR_getO (k := fun | some (.cells cs) => (match cs[off]? with | some x => k x | none => .fail) | _ => .fail) h ?_
  simp only [hl]; exact h2
theorem PR_shomeS {off s : Nat} {x : V} {u : V} (h : σ.slots[s]? = some v) (hl : off < v.leaves.length) (hu : v.withLeaves (v.leaves.set off x) = u) (h2 : PR p (σ.setS s u) rs ws τ) : PR (sHome (.slot s off) x p) σ (.slot s :: rs) (.slot s :: ws) τ := by
  subst hu
  refine PR_getS (k := fun v => if off < v.leaves.length then .setS s (v.withLeaves (v.leaves.set off x)) p else .fail) h ?_
  rw [if_pos hl]; exact PR_setS h2
theorem PR_shomeO {off o : Nat} {x : V} {cs cs' : List V} (h : σ.objs[o]? = some (some (.cells cs))) (hl : off < cs.length) (ho : o < σ.objs.length) (hs : cs.set off x = cs') (h2 : PR p (σ.setO o (some (.cells cs'))) rs ws τ) : PR (sHome (.obj o off) x p) σ (.obj o :: rs) (.obj o :: ws) τ := by
  subst hs
  refine PR_getO (k := fun | some (.cells cs) => if off < cs.length then .setO o (some (.cells (cs.set off x))) p else .fail | _ => .fail) h ?_
  simp only [if_pos hl]; exact PR_setO ho h2
theorem PR_elemsS {g sz off s : Nat} {hv : V} {own : Bool} {es : List V} {k : Bool → List V → Prog} (h : σ.slots[s]? = some v) (hl : v.leaves[off]? = some hv) (he : elemsOf g sz hv = some (own, es)) (h2 : PR (k own es) σ rs ws τ) : PR (gElems (.slot s off) g sz k) σ (.slot s :: rs) ws τ :=
  by rw [gElems_k]; exact PR_homeS h hl (by rw [elemsOf_prog he]; exact h2)
theorem PR_elemsO {g sz off o : Nat} {hv : V} {own : Bool} {cs es : List V} {k : Bool → List V → Prog} (h : σ.objs[o]? = some (some (.cells cs))) (hl : cs[off]? = some hv) (he : elemsOf g sz hv = some (own, es)) (h2 : PR (k own es) σ rs ws τ) : PR (gElems (.obj o off) g sz k) σ (.obj o :: rs) ws τ :=
  by rw [gElems_k]; exact PR_homeO h hl (by rw [elemsOf_prog he]; exact h2)
theorem PR_cellsO {o off n : Nat} {cs vs ws' : List V} {k : List V → Prog} (h : σ.objs[o]? = some (some (.cells cs))) (hl : off + n ≤ cs.length) (hv : (cs.drop off).take n = vs) (hb : borrows (fun i => .obj o (off + i)) 0 vs = ws') (h2 : PR (k ws') σ rs ws τ) : PR (gCells (.obj o off) n k) σ (.obj o :: rs) ws τ := by
  subst hv hb
  refine PR_getO (k := fun | some (.cells cs) => if off + n ≤ cs.length then k (borrows (fun i => .obj o (off + i)) 0 ((cs.drop off).take n)) else .fail | _ => .fail) h ?_
  simp only [if_pos hl]; exact h2
theorem PR_cellsE {r0 : List Loc} {h0 : Home} {g sz i off n : Nat} {vs : List V} {own : Bool} {es : List V} {e : V} {k : List V → Prog} (ha : ∀ k', PR (k' own es) σ rs ws τ → PR (gElems h0 g sz k') σ (r0 ++ rs) ws τ) (he : es[i]? = some e) (hl : off + n ≤ e.cells.length) (hv : (e.cells.drop off).take n = vs)
    (h2 : PR (k vs) σ rs ws τ) : PR (gCells (.elem h0 g sz i off) n k) σ (r0 ++ rs) ws τ := by
  subst hv
  simp only [gCells]
  refine ha _ ?_
  simp only [he, if_pos hl]; exact h2
theorem PR_scellsO {o off : Nat} {cs vs old ns cs' : List V} (h : σ.objs[o]? = some (some (.cells cs))) (hl : off + vs.length ≤ cs.length) (hv : (cs.drop off).take vs.length = old) (hr : regens old vs = some ns) (ho : o < σ.objs.length) (hs : splice cs off ns = cs') (h2 : PR p (σ.setO o (some (.cells cs'))) rs ws τ) : PR (sCells (.obj o off) vs p) σ (.obj o :: rs) (.obj o :: ws) τ := by
  subst hv hs
  simp only [sCells]
  refine PR_getO h ?_
  simp only [if_pos hl, hr]; exact PR_setO ho h2
theorem PR_scellsE {r0 : List Loc} {h0 : Home} {g sz i off : Nat} {vs : List V} {es es' : List V} {e : V} (ha : ∀ k', PR (k' true es) σ rs ws τ → PR (gElems h0 g sz k') σ (r0 ++ rs) ws τ) (he : es[i]? = some e) (hl : off + vs.length ≤ e.cells.length) (hs : es.set i (e.setCells off vs) = es')
    (h2 : PR (sHome h0 (.xsl g sz es') p) σ rs ws τ) : PR (sCells (.elem h0 g sz i off) vs p) σ (r0 ++ rs) ws τ := by
  subst hs
  simp only [sCells]
  refine ha _ ?_
  simp only [he, if_pos hl]; exact h2
theorem PR_aelS {g sz off s : Nat} {hv : V} {own : Bool} {es : List V} (h : σ.slots[s]? = some v) (hl : v.leaves[off]? = some hv) (he : elemsOf g sz hv = some (own, es)) : ∀ (k' : Bool → List V → Prog), PR (k' own es) σ rs ws τ → PR (gElems (.slot s off) g sz k') σ ([.slot s] ++ rs) ws τ := fun _ h2 => PR_elemsS h hl he h2
theorem PR_aelO {g sz off o : Nat} {hv : V} {own : Bool} {cs es : List V} (h : σ.objs[o]? = some (some (.cells cs))) (hl : cs[off]? = some hv) (he : elemsOf g sz hv = some (own, es)) : ∀ (k' : Bool → List V → Prog), PR (k' own es) σ rs ws τ → PR (gElems (.obj o off) g sz k') σ ([.obj o] ++ rs) ws τ := fun _ h2 => PR_elemsO h hl he h2
def viewOf : V → Option (Nat × List V)
  | .isl _ sz es | .xsl _ sz es | .fsl _ sz es | .csl sz es => some (sz, es)
  | .nilS sz => some (sz, [])
  | _ => none
theorem PR_view {sz : Nat} {es : List V} {k : Nat → List V → Prog} (h : viewOf v = some (sz, es)) (h2 : PR (k sz es) σ rs ws τ) : PR (gView v k) σ rs ws τ := by
  cases v <;> simp only [viewOf] at h <;> first | (cases h; done) | (cases h; exact h2)
theorem PR_viewR {r0 : List Loc} {h0 : Home} {g sz off len : Nat} {own : Bool} {es vs : List V} {k : Nat → List V → Prog} (ha : ∀ k', PR (k' own es) σ rs ws τ → PR (gElems h0 g sz k') σ (r0 ++ rs) ws τ) (hl : off + len ≤ es.length) (hv : (es.drop off).take len = vs)
    (h2 : PR (k sz vs) σ rs ws τ) : PR (gView (.srf h0 g sz off len) k) σ (r0 ++ rs) ws τ := by
  subst hv
  simp only [gView]
  refine ha _ ?_
  simp only [if_pos hl]; exact h2
theorem PR_viewA {o off len : Nat} {cs vs ws' : List V} {k : Nat → List V → Prog} (h : σ.objs[o]? = some (some (.cells cs))) (hl : off + len ≤ cs.length) (hv : (cs.drop off).take len = vs) (hb : borrows (fun i => .obj o (off + i)) 0 vs = ws') (hp : ws'.all V.plain = true) (h2 : PR (k 1 ws') σ rs ws τ) : PR (gView (.asl (.obj o off) len) k) σ (.obj o :: rs) ws τ := by
  simp only [gView]
  exact PR_cellsO h hl hv hb (by simp only [hp, if_true]; exact h2)
def lenOf : V → Option Nat
  | .str s => some s.length
  | .isl _ _ es | .xsl _ _ es | .fsl _ _ es | .csl _ es => some es.length
  | .nilS _ => some 0
  | .srf _ _ _ _ len => some len
  | .asl _ len => some len
  | .nilm => some 0
  | _ => none
theorem PR_len {n : Nat} {k : Nat → Prog} (h : lenOf v = some n) (h2 : PR (k n) σ rs ws τ) : PR (lenV v k) σ rs ws τ := by
  cases v <;> simp only [lenOf] at h <;> first | (cases h; done) | (cases h; exact h2)
theorem binV_shr {k k' : IntKind} {a b : Int} (h : 0 ≤ b) : binV .shr (.int k a) (.int k' b) = some (.int k (a.fdiv (2 ^ min b.toNat k.bits))) := by
  simp only [binV]; rw [if_neg (by omega)]
theorem binV_shl {k k' : IntKind} {a b : Int} (h : 0 ≤ b) : binV .shl (.int k a) (.int k' b) = some (.int k (k.wrap (a * 2 ^ min b.toNat k.bits))) := by
  simp only [binV]; rw [if_neg (by omega)]
theorem flat_by (l : List Nat) : (byN l).all V.flat = true := by simp [byN, V.flat]
theorem PR_gMoveV {mk : Nat → Option Home} (h2 : PR (k v) σ rs ws τ) (hp : v.plain = true) : PR (gMove mk (.val v) k) σ rs ws τ := by
  simp only [gMove, gOpd, hp, if_true]; exact h2
theorem PR_gMoveP {mk : Nat → Option Home} (h : σ.slots[t]? = some v) (hp : v.plain = true) (h2 : PR (k v) σ rs ws τ) : PR (gMove mk (.tmp t) k) σ (.slot t :: rs) ws τ :=
  PR_opdT h (by simp only [hp, if_true]; exact h2)
theorem PR_gMove {mk : Nat → Option Home} (h : σ.slots[t]? = some v) (hp : v.plain = false) (h2 : PR (drain (.tmp t) <| settle mk 0 v.leaves fun ls => k (v.withLeaves ls)) σ rs ws τ) : PR (gMove mk (.tmp t) k) σ (.slot t :: rs) ws τ :=
  PR_opdT h (by simp only [hp, Bool.false_eq_true, if_false]; exact h2)
theorem PR_gKeepV {mk : Nat → Option Home} (h2 : PR (k v) σ rs ws τ) (hp : v.plain = true) : PR (gKeep mk (.val v) k) σ rs ws τ := by
  simp only [gKeep, gOpd, hp, if_true]; exact h2
theorem PR_gKeepP {mk : Nat → Option Home} (h : σ.slots[t]? = some v) (hp : v.plain = true) (h2 : PR (k v) σ rs ws τ) : PR (gKeep mk (.tmp t) k) σ (.slot t :: rs) ws τ :=
  PR_opdT h (by simp only [hp, if_true]; exact h2)
theorem PR_gKeep {mk : Nat → Option Home} (h : σ.slots[t]? = some v) (hp : v.plain = false) (h2 : PR (drain (.tmp t) <| keeps mk 0 v.leaves fun ls => k (v.withLeaves ls)) σ rs ws τ) : PR (gKeep mk (.tmp t) k) σ (.slot t :: rs) ws τ :=
  PR_opdT h (by simp only [hp, Bool.false_eq_true, if_false]; exact h2)
theorem PR_gImmV (h2 : PR (k (freeze1 v)) σ rs ws τ) (hp : v.plain = true) : PR (gImm (.val v) k) σ rs ws τ := by
  simp only [gImm, gOpd, hp, if_true]; exact h2
theorem PR_gImmP (h : σ.slots[t]? = some v) (hp : v.plain = true) (h2 : PR (k (freeze1 v)) σ rs ws τ) : PR (gImm (.tmp t) k) σ (.slot t :: rs) ws τ :=
  PR_opdT h (by simp only [hp, if_true]; exact h2)
theorem PR_gImm (h : σ.slots[t]? = some v) (hp : v.plain = false) (h2 : PR (drain (.tmp t) <| settle (fun _ => none) 0 v.leaves fun ls => (if (ls.map freeze1).all V.inElem then k (v.withLeaves (ls.map freeze1)) else .fail)) σ rs ws τ) : PR (gImm (.tmp t) k) σ (.slot t :: rs) ws τ :=
  PR_opdT h (by simp only [hp, Bool.false_eq_true, if_false]; exact h2)
theorem PR_settle {mk : Nat → Option Home} {i : Nat} {ls us : List V} {k : List V → Prog} (h : ∀ k, settle mk i ls k = k us) (h2 : PR (k us) σ rs ws τ) : PR (settle mk i ls k) σ rs ws τ := by rw [h]; exact h2
theorem PR_settleR {mk : Nat → Option Home} {i : Nat} {h0 : Home} {g sz off len : Nat} {vs : List V} {k : List V → Prog} (h : PR (settle1 (mk i) (.srf h0 g sz off len) fun v' => settle mk (i + 1) vs fun vs' => k (v' :: vs')) σ rs ws τ) : PR (settle mk i (.srf h0 g sz off len :: vs) k) σ rs ws τ := h
theorem PR_keeps {mk : Nat → Option Home} {i : Nat} {ls us : List V} {k : List V → Prog} (h : ∀ k, keeps mk i ls k = k us) (h2 : PR (k us) σ rs ws τ) : PR (keeps mk i ls k) σ rs ws τ := by rw [h]; exact h2
theorem PR_build {off n : Nat} {x : Opd} {ps : List (Nat × Nat × Opd)} {cs : List V} {dd : Option Nat} (h : PR (gMove (fun i => dd.map fun d => .slot d (off + i)) x fun v =>
      if v.cells.length = n ∧ off + n ≤ cs.length ∧ v.here = true then buildP dd ps (splice cs off v.cells) else .fail) σ rs ws τ) : PR (buildP dd ((off, n, x) :: ps) cs) σ rs ws τ := h
theorem PR_build0 {cs : List V} {dd : Option Nat} (h : PR (putO dd (.agg cs) .ret) σ rs ws τ) : PR (buildP dd [] cs) σ rs ws τ := h
theorem PR_buildS {sz i : Nat} {x : Opd} {ps : List (Nat × Opd)} {es : List V} {dd : Option Nat} (h : PR (gImm x fun v => if v.cells.length = sz ∧ i < es.length ∧ v.here = true then buildSliceP dd sz ps (es.set i v) else .fail) σ rs ws τ) : PR (buildSliceP dd sz ((i, x) :: ps) es) σ rs ws τ := h
theorem PR_buildS0 {sz : Nat} {es : List V} {dd : Option Nat} (h : PR (putO dd (.xsl 0 sz es) .ret) σ rs ws τ) : PR (buildSliceP dd sz [] es) σ rs ws τ := h
theorem PR_ahS {off s : Nat} {x : V} (h : σ.slots[s]? = some v) (hl : v.leaves[off]? = some x) : ∀ (k' : V → Prog), PR (k' x) σ rs ws τ → PR (gHome (.slot s off) k') σ ([.slot s] ++ rs) ws τ := fun _ h2 => PR_homeS h hl h2
theorem PR_ahO {off o : Nat} {x : V} {cs : List V} (h : σ.objs[o]? = some (some (.cells cs))) (hl : cs[off]? = some x) : ∀ (k' : V → Prog), PR (k' x) σ rs ws τ → PR (gHome (.obj o off) k') σ ([.obj o] ++ rs) ws τ := fun _ h2 => PR_homeO h hl h2
section
variable {r0 : List Loc} {hh : Option Home} {h : Home} {g sz off len : Nat} {es vs : List V}
theorem PR_set1X (hg : ∀ k', PR (k' (.xsl g sz es)) σ rs ws τ → PR (gHome h k') σ (r0 ++ rs) ws τ) (hl : off + len ≤ es.length) (hv : (es.drop off).take len = vs) (h2 : PR (sHome h (.gone (g + 1)) (k (.xsl 0 sz vs))) σ rs ws τ) : PR (settle1 (some h) (.srf h g sz off len) k) σ (r0 ++ rs) ws τ := by
  subst hv
  simp only [settle1]
  refine hg _ ?_
  simp only [hl, and_self, if_true]; exact h2
theorem PR_set1F (hg : ∀ k', PR (k' (.fsl g sz es)) σ rs ws τ → PR (gHome h k') σ (r0 ++ rs) ws τ) (hl : off + len = es.length) (hv : (es.drop off).take len = vs) (h2 : PR (sHome h (.gone (g + 1)) (k (.fsl 0 sz vs))) σ rs ws τ) : PR (settle1 (some h) (.srf h g sz off len) k) σ (r0 ++ rs) ws τ := by
  subst hv
  simp only [settle1]
  refine hg _ ?_
  simp only [hl, Nat.le_refl, and_self, if_true]; exact h2
theorem PR_set2X (hg : ∀ k', PR (k' (.xsl g sz es)) σ rs ws τ → PR (gHome h k') σ (r0 ++ rs) ws τ) (hne : hh ≠ some h) (hl : off + len ≤ es.length) (hv : (es.drop off).take len = vs) (h2 : PR (sHome h (.fsl g sz es) (k (.isl 0 sz vs))) σ rs ws τ) : PR (settle1 hh (.srf h g sz off len) k) σ (r0 ++ rs) ws τ := by
  subst hv
  simp only [settle1]
  refine hg _ ?_
  simp only [hl, and_self, if_true, if_neg hne]; exact h2
theorem PR_set2F (hg : ∀ k', PR (k' (.fsl g sz es)) σ rs ws τ → PR (gHome h k') σ (r0 ++ rs) ws τ) (hne : hh ≠ some h) (hl : off + len ≤ es.length) (hv : (es.drop off).take len = vs) (h2 : PR (k (.isl 0 sz vs)) σ rs ws τ) : PR (settle1 hh (.srf h g sz off len) k) σ (r0 ++ rs) ws τ := by
  subst hv
  simp only [settle1]
  refine hg _ ?_
  simp only [hl, and_self, if_true, if_neg hne]; exact h2
theorem PR_set2I (hg : ∀ k', PR (k' (.isl g sz es)) σ rs ws τ → PR (gHome h k') σ (r0 ++ rs) ws τ) (hl : off + len ≤ es.length) (hv : (es.drop off).take len = vs) (h2 : PR (k (.isl 0 sz vs)) σ rs ws τ) : PR (settle1 hh (.srf h g sz off len) k) σ (r0 ++ rs) ws τ := by
  subst hv
  simp only [settle1]
  refine hg _ ?_
  simp only [hl, and_self, if_true]; exact h2
end
end
section
variable {cal : Callee} {base : Nat} {σ σ1 : St} {rs ws : List Loc}
theorem PO_cons {Q : St → Prop} {o : VOper} {os : List VOper} (h : PR (o.prog cal base) σ rs ws σ1) (h2 : WO cal base os σ1 Q) : WO cal base (o :: os) σ Q := WO_cons h.1 h2
theorem PD_cons {Q : St → Prop} {o : VOper} {os : List VOper} {done : List (List Loc × List Loc)} (h : PR (o.prog cal base) σ rs ws σ1) (hc : clashes o.before (rs, ws) 0 done = false) (h2 : WD cal base os (done ++ [(rs, ws)]) σ1 Q) : WD cal base (o :: os) done σ Q := WD_cons h.2 hc h.1 h2
theorem PO_n {d : Option Nat} {op : VOp} {bf : Nat} (h : PR (opProg cal base d op) σ rs ws σ1) : PR (VOper.prog cal base ⟨d, op, none, bf⟩) σ rs ws σ1 := h
theorem PO_t {d : Option Nat} {op : VOp} {bf y : Nat} {b : Bool} (hy : σ.slots[y]? = some (.bool b)) (h : PR (opProg cal base d op) σ rs ws σ1) : PR (VOper.prog cal base ⟨d, op, some (y, b), bf⟩) σ (.slot y :: rs) ws σ1 := by
  refine PR_getS (k := fun | .bool b' => if b' == b then opProg cal base d op else skipP d | .tup [] => skipP d | _ => .fail) hy ?_
  simp only [beq_self_eq_true, if_true]; exact h
theorem PO_f {d : Option Nat} {op : VOp} {bf y : Nat} {b b' : Bool} (hy : σ.slots[y]? = some (.bool b')) (hb : (b' == b) = false) (h : PR (skipP d) σ rs ws σ1) : PR (VOper.prog cal base ⟨d, op, some (y, b), bf⟩) σ (.slot y :: rs) ws σ1 := by
  refine PR_getS (k := fun | .bool b' => if b' == b then opProg cal base d op else skipP d | .tup [] => skipP d | _ => .fail) hy ?_
  simp only [hb, Bool.false_eq_true, if_false]; exact h
theorem PO_u {d : Option Nat} {op : VOp} {bf y : Nat} {b : Bool} (hy : σ.slots[y]? = some (.tup [])) (h : PR (skipP d) σ rs ws σ1) : PR (VOper.prog cal base ⟨d, op, some (y, b), bf⟩) σ (.slot y :: rs) ws σ1 :=
  PR_getS (k := fun | .bool b' => if b' == b then opProg cal base d op else skipP d | .tup [] => skipP d | _ => .fail) hy h
theorem gSome {α : Type} {a : Option α} {b : α} (h : a = some b) : a = some b := h
theorem gTrue {a : Bool} (h : a = true) : a = true := h
theorem gFalse {a : Bool} (h : a = false) : a = false := h
theorem gWOs {Q : St → Prop} {os : List VOper} {d : Nat} {v : V} (h : WO cal base os (σ.setS d v) Q) : WO cal base os (σ.setS d v) Q := h
theorem gWOo {Q : St → Prop} {os : List VOper} {d : Nat} {v : Option Obj} (h : WO cal base os (σ.setO d v) Q) : WO cal base os (σ.setO d v) Q := h
theorem gWDs {Q : St → Prop} {os : List VOper} {d : Nat} {v : V} {done : List (List Loc × List Loc)} (h : WD cal base os done (σ.setS d v) Q) : WD cal base os done (σ.setS d v) Q := h
theorem gWDo {Q : St → Prop} {os : List VOper} {d : Nat} {v : Option Obj} {done : List (List Loc × List Loc)} (h : WD cal base os done (σ.setO d v) Q) : WD cal base os done (σ.setO d v) Q := h
end
end Go.Vq
namespace Go.Vq
section
variable {G : VProg} {m base site : Nat} {σ σ0 : St} {Q : Out → St → Prop}
def QsN (cal : Callee) (its : FuncId → Iter) (again : Nat → VCode → St → Option (Out × St)) (base : Nat) (b : VCode) (Q : Out → St → Prop) : Out → St → Prop
  | .normal, s => W cal its again base b s Q
  | _, _ => False
theorem QsN_n {cal : Callee} {its : FuncId → Iter} {again : Nat → VCode → St → Option (Out × St)} {b : VCode} (h : W cal its again base b σ Q) : QsN cal its again base b Q .normal σ := h
def Qit (m : Nat) (sl : List V) (next : St) (I : Prop) (Q : Out → St → Prop) : Out → St → Prop
  | .normal, s => rangeSt none m sl s = next ∧ I
  | o, s => Q o (rangeSt none m sl s)
theorem Qi_n {m : Nat} {sl : List V} {next : St} {I : Prop} (h : rangeSt none m sl σ = next) (hI : I) : Qit m sl next I Q .normal σ := ⟨h, hI⟩
theorem Qi_r {m : Nat} {sl : List V} {next τ : St} {I : Prop} (h : rangeSt none m sl σ = τ) (hq : Q .ret τ) : Qit m sl next I Q .ret σ := by subst h; exact hq
theorem W_rounds {cal : Callee} {its : FuncId → Iter} {again : Nat → VCode → St → Option (Out × St)} {mm : Nat} {sl : List V} {ps : List Nat} {a b : VCode} :
    ∀ (xs : List (List V)) (S : Nat → St) (I : Nat → Prop), I 0 → (∀ i (h : i < xs.length), I i → W cal its again mm a (setPs ps xs[i] (S i)) (QsN cal its again mm b (Qit mm sl (S (i + 1)) (I (i + 1)) Q))) → (I xs.length → Q .normal (S xs.length)) →
      ∃ o s, rounds (fun y σ1 => match step cal its again mm a (setPs ps y σ1) with
    | some (.normal, σ2) => step cal its again mm b σ2
    | _ => none) (rangeSt none mm sl) xs (S 0) = some (o, s) ∧ Q o s
  | [], S, I, h0, _, hq => ⟨_, _, rfl, hq h0⟩
  | x :: xs, S, I, h0, hr, hq => by
    obtain ⟨o, s, h1, h2⟩ := hr 0 (by simp) h0
    cases o with
    | normal =>
      obtain ⟨o', s', h3, h4⟩ := h2
      have h1' : step cal its again mm a (setPs ps x (S 0)) = some (.normal, s) := h1
      cases o' with
      | normal =>
        obtain ⟨o2, s2, h5, h6⟩ := W_rounds (sl := sl) xs (fun i => S (i + 1)) (fun i => I (i + 1)) h4.2 (fun i h => hr (i + 1) (by simpa using h)) hq
        refine ⟨o2, s2, ?_, h6⟩
        simp only [rounds, h1', h3]
        have : rangeSt none mm sl s' = S (0 + 1) := h4.1
        rw [this]; exact h5
      | exit id => exact ⟨_, _, by simp only [rounds, h1', h3], h4⟩
      | ret => exact ⟨_, _, by simp only [rounds, h1', h3], h4⟩
    | exit id => exact h2.elim
    | ret => exact h2.elim
theorem W_range {cal : Callee} {its : FuncId → Iter} {again : Nat → VCode → St → Option (Out × St)} {x : Opd} {ps : List Nat} {keep : Option (List Nat)} {a b : VCode} {g : FuncId} {caps : List V} {bs : List (List V)} {xs : List (List V)}
    (hv : opdV x σ = .func g caps) (hb : boxesOf caps = some bs) (hi : its g bs = some (ps.length, xs)) (S : Nat → St) (I : Nat → Prop) (hI : I 0) (h0 : rangeSt keep (base + site) σ.slots σ = S 0)
    (hr : ∀ i (h : i < xs.length), I i → W cal its again (base + site) a (setPs ps xs[i] (S i)) (QsN cal its again (base + site) b (Qit (base + site) (S 0).slots (S (i + 1)) (I (i + 1)) Q))) (hq : I xs.length → Q .normal (S xs.length)) :
    W cal its again base (.range x ps site keep a b) σ Q := by
  obtain ⟨o, s, h1, h2⟩ := W_rounds xs S I hI hr hq
  refine ⟨o, s, ?_, h2⟩
  simp only [step, rangeGo, hv, hb, hi, if_true, h0]
  exact h1
end
end Go.Vq
namespace Go.Vq
section
theorem idsIn_by (l : List Nat) : V.objIds.idsIn (byN l) = [] := by
  induction l with | nil => rfl | cons x l ih => rw [byN_cons]; simp only [V.objIds.idsIn, V.objIds, ih, List.nil_append]
theorem idsIn_c (v : V) (vs : List V) : V.objIds.idsIn (v :: vs) = v.objIds ++ V.objIds.idsIn vs := by rw [V.objIds.idsIn]
theorem idsIn_n : V.objIds.idsIn [] = [] := by rw [V.objIds.idsIn]
theorem ids_agg (cs : List V) : V.objIds (.agg cs) = V.objIds.idsIn cs := by rw [V.objIds]
theorem ids_ptr (o off : Nat) : V.objIds (.ptr (.obj o off)) = [o] := by rw [V.objIds]
theorem ids_int (k : IntKind) (n : Int) : V.objIds (.int k n) = [] := by simp [V.objIds]
theorem ids_bool (b : Bool) : V.objIds (.bool b) = [] := by simp [V.objIds]
theorem ids_str (b : List UInt8) : V.objIds (.str b) = [] := by simp [V.objIds]
theorem ids_isl (g sz : Nat) (es : List V) : V.objIds (.isl g sz es) = [] := by simp [V.objIds]
theorem ids_xsl (g sz : Nat) (es : List V) : V.objIds (.xsl g sz es) = [] := by simp [V.objIds]
theorem ids_fsl (g sz : Nat) (es : List V) : V.objIds (.fsl g sz es) = [] := by simp [V.objIds]
theorem ids_nilS (sz : Nat) : V.objIds (.nilS sz) = [] := by simp [V.objIds]
theorem rens_by (f : Nat → Option Nat) (l : List Nat) : rens f (byN l) = some (byN l) := by
  induction l with
  | nil => rw [byN_nil, rens]
  | cons x l ih => rw [byN_cons, rens, ih]; simp [V.ren]
theorem rens_c (f : Nat → Option Nat) (v : V) (vs : List V) : rens f (v :: vs) = (V.ren f v).bind fun v' => (rens f vs).map (v' :: ·) := by
  rw [rens]; cases V.ren f v <;> cases rens f vs <;> rfl
theorem rens_n (f : Nat → Option Nat) : rens f [] = some [] := by rw [rens]
theorem ren_int (f : Nat → Option Nat) (k : IntKind) (n : Int) : V.ren f (.int k n) = some (.int k n) := by simp [V.ren]
theorem ren_bool (f : Nat → Option Nat) (b : Bool) : V.ren f (.bool b) = some (.bool b) := by simp [V.ren]
theorem ren_str (f : Nat → Option Nat) (b : List UInt8) : V.ren f (.str b) = some (.str b) := by simp [V.ren]
theorem ren_isl (f : Nat → Option Nat) (g sz : Nat) (es : List V) : V.ren f (.isl g sz es) = some (.isl g sz es) := by simp [V.ren]
theorem ren_xsl (f : Nat → Option Nat) (g sz : Nat) (es : List V) : V.ren f (.xsl g sz es) = some (.xsl g sz es) := by simp [V.ren]
theorem ren_fsl (f : Nat → Option Nat) (g sz : Nat) (es : List V) : V.ren f (.fsl g sz es) = some (.fsl g sz es) := by simp [V.ren]
theorem ren_nilS (f : Nat → Option Nat) (sz : Nat) : V.ren f (.nilS sz) = some (.nilS sz) := by simp [V.ren]
theorem ren_nil (f : Nat → Option Nat) : V.ren f .nil = some .nil := by simp [V.ren]
theorem ren_iptr (f : Nat → Option Nat) (cs : List V) : V.ren f (.iptr cs) = some (.iptr cs) := by simp [V.ren]
theorem ren_ptr (f : Nat → Option Nat) (o off : Nat) : V.ren f (.ptr (.obj o off)) = (f o).map fun o => .ptr (.obj o off) := by
  simp only [V.ren, Ref.ren]; cases f o <;> rfl
theorem ren_agg (f : Nat → Option Nat) (cs : List V) : V.ren f (.agg cs) = (rens f cs).map .agg := by rw [V.ren]
theorem ren_tup (f : Nat → Option Nat) (cs : List V) : V.ren f (.tup cs) = (rens f cs).map .tup := by rw [V.ren]
theorem ren_func (f : Nat → Option Nat) (g : FuncId) (cs : List V) : V.ren f (.func g cs) = (rens f cs).map (.func g) := by rw [V.ren]
theorem zero1_by (l : List Nat) : (byN l).map zero1 = byN l := by induction l with | nil => rfl | cons x l ih => simp only [byN_cons, List.map_cons, zero1, ih]
theorem objRen_e (f : Nat → Option Nat) (cs : List V) : objRen f (.cells cs) = (rens f (cs.map zero1)).map .cells := rfl
theorem mapM_c {α β : Type} (f : α → Option β) (a : α) (l : List α) : (a :: l).mapM f = (f a).bind fun b => (l.mapM f).map (b :: ·) := by
  rw [List.mapM_cons]; cases f a <;> cases l.mapM f <;> rfl
theorem mapM_n {α β : Type} (f : α → Option β) : ([] : List α).mapM f = some [] := rfl
theorem gTheres_by (l : List Nat) (k : Prog) : gTheres (byN l) k = k := by induction l with | nil => rfl | cons x l ih => rw [byN_cons]; simp only [gTheres, gThere1, ih]
theorem gTheres_app (a b : List V) (k : Prog) : gTheres (a ++ b) k = gTheres a (gTheres b k) := by induction a with | nil => rfl | cons x a ih => simp only [List.cons_append, gTheres, ih]
theorem gTh_agg (cs : List V) (vs : List V) (k : Prog) : gTheres (List.flatMap V.leaves (.agg cs :: vs)) k = gTheres cs (gTheres (List.flatMap V.leaves vs) k) := by rw [List.flatMap_cons, gTheres_app]; rfl
theorem flatMap_nil' : List.flatMap V.leaves [] = [] := rfl
end
section
variable {σ τ : St} {rs ws : List Loc} {t d : Nat} {v : V} {callee : Callee}
def callK (callee : Callee) (f : FuncId) (first : Nat) (dst : Option Nat) (vs : List V) (ids : List Nat) (os : List Obj) : Prog :=
    if ids.Nodup then
      match rens (findIdx ids) vs, os.mapM (objRen (findIdx ids)) with
      | some vs', some os' =>
        match callee f vs' os' with
        | some (r, os'') =>
          match r.ren ((ids ++ newIds first (os''.length - ids.length))[·]?), os''.mapM (objRen ((ids ++ newIds first (os''.length - ids.length))[·]?)) with
          | some r', some os3 =>
            if ¬ (ids ++ newIds first (os''.length - ids.length)).Nodup ∨ os''.length < ids.length then .fail else
            setObjs ids (os3.take ids.length) <| newObjs first (os3.drop ids.length) <| resRef r' fun r'' => putO dst r'' .ret
          | _, _ => .fail
        | none => .fail
      | _, _ => .fail
    else .fail
theorem PR_call {f first : Nat} {args : List Opd} {caps : List V} {dst : Option Nat} (h : PR (lendArgs args fun vs => gTheres ((vs ++ caps).flatMap V.leaves) <| reach 64 (V.objIds.idsIn (vs ++ caps)) [] fun ids => getObjs ids fun os => callK callee f first dst (vs ++ caps) ids os) σ rs ws τ) :
    PR (callP callee false f first dst args caps) σ rs ws τ := by
  unfold callP
  rw [if_neg (by decide)]
  exact h
theorem PR_callK {f first : Nat} {dst : Option Nat} {vs vs' : List V} {ids : List Nat} {os os' os'' os3 : List Obj} {q r' : V} {nn : Nat} (hn : ids.Nodup) (h5 : rens (findIdx ids) vs = some vs') (h6 : os.mapM (objRen (findIdx ids)) = some os')
    (hc : callee f vs' os' = some (q, os'')) (hl : os''.length - ids.length = nn) (h7 : q.ren ((ids ++ newIds first nn)[·]?) = some r') (h8 : os''.mapM (objRen ((ids ++ newIds first nn)[·]?)) = some os3)
    (h9 : (ids ++ newIds first nn).Nodup) (h10 : ids.length ≤ os''.length) (h : PR (setObjs ids (os3.take ids.length) <| newObjs first (os3.drop ids.length) <| resRef r' fun r'' => putO dst r'' .ret) σ rs ws τ) :
    PR (callK callee f first dst vs ids os) σ rs ws τ := by
  subst hl
  have h11 : ¬ (¬ (ids ++ newIds first (os''.length - ids.length)).Nodup ∨ os''.length < ids.length) := by
    rintro (h | h)
    · exact h h9
    · omega
  simp only [callK, hn, if_true, h5, h6, hc, h7, h8, if_neg h11]
  exact h
theorem PR_lendN {k : List V → Prog} (h : PR (k []) σ rs ws τ) : PR (lendArgs [] k) σ rs ws τ := h
theorem PR_lendT {xs : List Opd} {k : List V → Prog} (h : σ.slots[t]? = some v) (hv : ∀ us, v ≠ .tup us) (h2 : PR (settle (fun _ => none) 0 (borrows (.slot t) 0 v.leaves) fun ls => lendArgs xs fun vs => k (v.withLeaves (ls.map freeze1) :: vs)) σ rs ws τ) :
    PR (lendArgs (.tmp t :: xs) k) σ (.slot t :: rs) ws τ := by
  refine PR_getS h ?_
  cases v <;> first | exact h2 | exact absurd rfl (hv _)
theorem PR_lendV {xs : List Opd} {k : List V → Prog} (hv : ∀ us, v ≠ .tup us) (h2 : PR (lendArgs xs fun vs => k (v.withLeaves (v.leaves.map freeze1) :: vs)) σ rs ws τ) : PR (lendArgs (.val v :: xs) k) σ rs ws τ := by
  cases v <;> first | exact h2 | exact absurd rfl (hv _)
theorem PR_reachN {n : Nat} {acc : List Nat} {k : List Nat → Prog} (h : PR (k acc) σ rs ws τ) : PR (reach n [] acc k) σ rs ws τ := by
  cases n <;> exact h
theorem PR_reachC {n o : Nat} {todo acc : List Nat} {k : List Nat → Prog} {cs : List V} (hn : o ∉ acc) (h : σ.objs[o]? = some (some (.cells cs))) (h2 : PR (reach n (todo ++ V.objIds.idsIn cs) (acc ++ [o]) k) σ rs ws τ) : PR (reach (n + 1) (o :: todo) acc k) σ (.obj o :: rs) ws τ := by
  simp only [reach, if_neg hn]
  exact PR_getO h h2
theorem PR_reachS {n o : Nat} {todo acc : List Nat} {k : List Nat → Prog} (hn : o ∈ acc) (h2 : PR (reach n todo acc k) σ rs ws τ) : PR (reach (n + 1) (o :: todo) acc k) σ rs ws τ := by
  simp only [reach, if_pos hn]
  exact h2
theorem PR_getObN {k : List Obj → Prog} (h : PR (k []) σ rs ws τ) : PR (getObjs [] k) σ rs ws τ := h
theorem PR_getObC {o : Nat} {os : List Nat} {k : List Obj → Prog} {cs : List V} (h : σ.objs[o]? = some (some (.cells cs))) (h2 : PR (getObjs os fun xs => k (.cells cs :: xs)) σ rs ws τ) : PR (getObjs (o :: os) k) σ (.obj o :: rs) ws τ :=
  PR_getO h h2
theorem PR_setObN {k : Prog} (h : PR k σ rs ws τ) : PR (setObjs [] [] k) σ rs ws τ := h
theorem PR_setObC {o : Nat} {os : List Nat} {k : Prog} {cs ns ls : List V} {xs : List Obj} (h : σ.objs[o]? = some (some (.cells cs))) (hr : regens cs ns = some ls) (hl : ls.length = cs.length) (ho : o < σ.objs.length) (h2 : PR (setObjs os xs k) (σ.setO o (some (.cells ls))) rs ws τ) :
    PR (setObjs (o :: os) (.cells ns :: xs) k) σ (.obj o :: rs) (.obj o :: ws) τ := by
  refine PR_getO h ?_
  simp only [hr, if_pos hl]
  exact PR_setO ho h2
theorem PR_newObN {o : Nat} {k : Prog} (h : PR k σ rs ws τ) : PR (newObjs o [] k) σ rs ws τ := h
theorem PR_newObC {o : Nat} {x : Obj} {xs : List Obj} {k : Prog} (h : σ.objs[o]? = some none) (ho : o < σ.objs.length) (h2 : PR (newObjs (o + 1) xs k) (σ.setO o (some x)) rs ws τ) : PR (newObjs o (x :: xs) k) σ (.obj o :: rs) (.obj o :: ws) τ := by
  refine PR_getO h ?_
  exact PR_setO ho h2
theorem PR_resRef {k : V → Prog} (hv : ∀ h g sz i off, v ≠ .ptr (.elem h g sz i off)) (h2 : PR (k v) σ rs ws τ) : PR (resRef v k) σ rs ws τ := by
  cases v with
  | ptr r => cases r with
    | obj => exact h2
    | elem => exact absurd rfl (hv _ _ _ _ _)
  | _ => exact h2
theorem PR_theres {ls : List V} {p : Prog} (h : gTheres ls p = p) (h2 : PR p σ rs ws τ) : PR (gTheres ls p) σ rs ws τ := by rw [h]; exact h2
theorem PR_callR {f first : Nat} {vs : List V} {dst : Option Nat} (h : PR (gTheres (vs.flatMap V.leaves) <| reach 64 (V.objIds.idsIn vs) [] fun ids => getObjs ids fun os => callK callee f first dst vs ids os) σ rs ws τ) : PR (callR callee f first dst vs) σ rs ws τ := h
theorem PR_moveN {mv : Nat} {k : List V → Prog} (h : PR (k []) σ rs ws τ) : PR (moveArgs mv [] k) σ rs ws τ := h
theorem PR_moveT {mv : Nat} {xs : List Opd} {k : List V → Prog} (hm : mv % 2 = 1) (h : σ.slots[t]? = some v) (h2 : PR (gMove (srcHome v) (.tmp t) fun v => moveArgs (mv / 2) xs fun vs => k (v :: vs)) σ rs ws τ) : PR (moveArgs mv (.tmp t :: xs) k) σ (.slot t :: rs) ws τ := by
  simp only [moveArgs, hm, if_true]
  exact PR_getS h h2
theorem PR_moveV {mv : Nat} {xs : List Opd} {k : List V → Prog} (hm : mv % 2 = 1) (h2 : PR (gMove (srcHome v) (.val v) fun v => moveArgs (mv / 2) xs fun vs => k (v :: vs)) σ rs ws τ) : PR (moveArgs mv (.val v :: xs) k) σ rs ws τ := by
  simp only [moveArgs, hm, if_true]
  exact h2
theorem PR_move0T {mv : Nat} {xs : List Opd} {k : List V → Prog} (hm : mv % 2 = 0) (h : σ.slots[t]? = some v) (hv : ∀ us, v ≠ .tup us) (h2 : PR (settle (fun _ => none) 0 (borrows (.slot t) 0 v.leaves) fun ls => moveArgs (mv / 2) xs fun vs => k (v.withLeaves (ls.map freeze1) :: vs)) σ rs ws τ) :
    PR (moveArgs mv (.tmp t :: xs) k) σ (.slot t :: rs) ws τ := by
  have h1 : ¬ mv % 2 = 1 := by omega
  simp only [moveArgs, h1, if_false]
  refine PR_getS h ?_
  cases v <;> first | exact h2 | exact absurd rfl (hv _)
theorem PR_move0V {mv : Nat} {xs : List Opd} {k : List V → Prog} (hm : mv % 2 = 0) (hv : ∀ us, v ≠ .tup us) (h2 : PR (moveArgs (mv / 2) xs fun vs => k (v.withLeaves (v.leaves.map freeze1) :: vs)) σ rs ws τ) : PR (moveArgs mv (.val v :: xs) k) σ rs ws τ := by
  have h1 : ¬ mv % 2 = 1 := by omega
  simp only [moveArgs, h1, if_false]
  cases v <;> first | exact h2 | exact absurd rfl (hv _)
theorem PR_callA {r0 : List Loc} {f first : Nat} {args : List Opd} {caps vs : List V} {dst : Option Nat} {q : V} (ha : ∀ k, PR (k vs) σ rs ws τ → PR (presArgs args k) σ (r0 ++ rs) ws τ) (hi : V.objIds.idsIn (vs ++ caps) = []) (hc : callee f (vs ++ caps) [] = some (q, [])) (hq : q.apart = true) (h : PR (putO dst q .ret) σ rs ws τ) :
    PR (callP callee true f first dst args caps) σ (r0 ++ rs) ws τ := by
  simp only [callP, if_true]
  refine ha _ ?_
  simp only [hi, if_true, hc, hq]
  exact h
theorem gRens {f : Nat → Option Nat} {l r : List V} (h : rens f l = some r) : rens f l = some r := h
theorem gRen {f : Nat → Option Nat} {l r : V} (h : V.ren f l = some r) : V.ren f l = some r := h
theorem gMapM {f : Obj → Option Obj} {l r : List Obj} (h : l.mapM f = some r) : l.mapM f = some r := h
theorem gPR {p : Prog} (h : PR p σ rs ws τ) : PR p σ rs ws τ := h
theorem gWO {cal : Callee} {base : Nat} {os : List VOper} {Q : St → Prop} (h : WO cal base os σ Q) : WO cal base os σ Q := h
theorem gWD {cal : Callee} {base : Nat} {os : List VOper} {done : List (List Loc × List Loc)} {Q : St → Prop} (h : WD cal base os done σ Q) : WD cal base os done σ Q := h
theorem gW {cal : Callee} {its : FuncId → Iter} {again : Nat → VCode → St → Option (Out × St)} {base : Nat} {c : VCode} {Q : Out → St → Prop} (h : W cal its again base c σ Q) : W cal its again base c σ Q := h
theorem gQs {cal : Callee} {its : FuncId → Iter} {again : Nat → VCode → St → Option (Out × St)} {base : Nat} {b : VCode} {Q : Out → St → Prop} {o : Out} (h : Qseq cal its again base b Q o σ) : Qseq cal its again base b Q o σ := h
theorem gQb {base id : Nat} {keep : Option (List Nat)} {Q : Out → St → Prop} {o : Out} (h : Qblk base id keep Q o σ) : Qblk base id keep Q o σ := h
theorem gReach {n : Nat} {ids acc : List Nat} {k : List Nat → Prog} (h : PR (reach n ids acc k) σ rs ws τ) : PR (reach n ids acc k) σ rs ws τ := h
end
end Go.Vq
namespace Go.Vq
section
variable {σ τ : St} {rs ws r1 : List Loc} {t : Nat} {v : V} {us vs : List V} {xs : List Opd}
theorem regens_0A (b : List Nat) (vs : List V) : regens [] (byN b ++ vs) = (regens [] vs).map (byN b ++ ·) := by
  induction b with
  | nil => rw [byN_nil]; cases h : regens [] vs <;> simp [h]
  | cons x b ih => rw [byN_cons, List.cons_append, regens_0c, ih]; simp only [regen1, V.nextg, if_true, Option.bind_some]; cases regens [] vs <;> rfl
theorem regens_gA {b : List Nat} {n : Nat} (h : b.length = n + 1) (vs : List V) : regens [.gone 0] (byN b ++ vs) = (regens [] vs).map (byN b ++ ·) := by
  match b, h with
  | x :: b, _ => rw [byN_cons, List.cons_append, regens_c, regens_0A]; simp only [regen1, V.nextg, if_true, Option.bind_some]; cases regens [] vs <;> rfl
theorem take_byA {c : List Nat} {n : Nat} (h : c.length = n) (r : List V) : (byN c ++ r).take n = byN c := by rw [← h, ← byN_len]; exact List.take_left
theorem drop_byA {c : List Nat} {n : Nat} (h : c.length = n) (r : List V) : (byN c ++ r).drop n = r := by rw [← h, ← byN_len]; exact List.drop_left
theorem hasX_tA (b : List Nat) (vs : List V) : V.hasX (.tup (.agg (byN b) :: vs)) = V.hasX (.tup vs) := by
  simp only [V.hasX, V.leaves, List.flatMap_cons, V.cells, List.any_append]
  have := hasX_by b
  simp only [V.hasX, V.leaves] at this
  rw [this, Bool.false_or]
theorem hasX_tI (k : IntKind) (n : Int) (vs : List V) : V.hasX (.tup (.int k n :: vs)) = V.hasX (.tup vs) := rfl
theorem hasX_t0 : V.hasX (.tup []) = false := rfl
theorem gThG {ls : List V} {p : Prog} (h : gTheres ls p = p) : gTheres ls p = p := h
theorem press_by (l : List Nat) (k : List V → Prog) : press (byN l) k = k (byN l) := by
  induction l generalizing k with
  | nil => rfl
  | cons x l ih => rw [byN_cons]; simp only [press, pres1, pres0, ih]
theorem PA_nil : ∀ (k : List V → Prog), PR (k []) σ rs ws τ → PR (presArgs [] k) σ ([] ++ rs) ws τ := fun _ h => h
theorem PA_T (h : σ.slots[t]? = some v) (hnt : ∀ us, v ≠ .tup us) (hp : ∀ k, press v.leaves k = k us) (hr : ∀ (k : List V → Prog), PR (k vs) σ rs ws τ → PR (presArgs xs k) σ (r1 ++ rs) ws τ) :
    ∀ (k : List V → Prog), PR (k (v.withLeaves us :: vs)) σ rs ws τ → PR (presArgs (.tmp t :: xs) k) σ ((.slot t :: r1) ++ rs) ws τ := by
  intro k h2
  refine PR_getS h ?_
  have := hr (fun vs => k (v.withLeaves us :: vs)) h2
  cases v <;> first | (simp only [hp]; exact this) | exact absurd rfl (hnt _)
theorem PA_V (hnt : ∀ us, v ≠ .tup us) (hp : ∀ k, press v.leaves k = k us) (hr : ∀ (k : List V → Prog), PR (k vs) σ rs ws τ → PR (presArgs xs k) σ (r1 ++ rs) ws τ) :
    ∀ (k : List V → Prog), PR (k (v.withLeaves us :: vs)) σ rs ws τ → PR (presArgs (.val v :: xs) k) σ (r1 ++ rs) ws τ := by
  intro k h2
  have := hr (fun vs => k (v.withLeaves us :: vs)) h2
  simp only [presArgs, presArg, gOpd]
  cases v <;> first | (simp only [hp]; exact this) | exact absurd rfl (hnt _)
end
end Go.Vq
set_option linter.unusedVariables false
set_option maxRecDepth 1000000
namespace Go.Vq
structure Hid (q : Prop) : Prop where
  h : q
end Go.Vq
namespace Go.Vq
def Fac {α : Type} (p : (α → Prog) → Prog) : Prop := ∀ σ, (∀ K, (p K).run σ = none) ∨ ∃ a σ' rs ws, ∀ K, (p K).run σ = (K a).run σ' ∧ (p K).foot σ = (rs ++ ((K a).foot σ').1, ws ++ ((K a).foot σ').2)
section
variable {α β : Type}
theorem Fac.k (a : α) : Fac fun K => K a := fun σ => .inr ⟨a, σ, [], [], fun _ => ⟨rfl, rfl⟩⟩
theorem Fac.fail : Fac fun (_ : α → Prog) => Prog.fail := fun _ => .inl fun _ => rfl
theorem Fac.getS {s : Nat} {p : V → (α → Prog) → Prog} (h : ∀ v, Fac (p v)) : Fac fun K => Prog.getS s fun v => p v K := fun σ => by
  rcases h (σ.slot s) σ with h1 | ⟨a, σ', rs, ws, h1⟩
  · exact .inl fun K => h1 K
  · exact .inr ⟨a, σ', .slot s :: rs, ws, fun K => ⟨(h1 K).1, by simp only [Prog.foot, (h1 K).2, List.cons_append]⟩⟩
theorem Fac.getO {s : Nat} {p : Option Obj → (α → Prog) → Prog} (h : ∀ v, Fac (p v)) : Fac fun K => Prog.getO s fun v => p v K := fun σ => by
  rcases h (σ.obj s) σ with h1 | ⟨a, σ', rs, ws, h1⟩
  · exact .inl fun K => h1 K
  · exact .inr ⟨a, σ', .obj s :: rs, ws, fun K => ⟨(h1 K).1, by simp only [Prog.foot, (h1 K).2, List.cons_append]⟩⟩
theorem Fac.setS {s : Nat} {v : V} {p : (α → Prog) → Prog} (h : Fac p) : Fac fun K => Prog.setS s v (p K) := fun σ => by
  rcases h (σ.setS s v) with h1 | ⟨a, σ', rs, ws, h1⟩
  · exact .inl fun K => h1 K
  · exact .inr ⟨a, σ', rs, .slot s :: ws, fun K => ⟨(h1 K).1, by simp only [Prog.foot, (h1 K).2, List.cons_append]⟩⟩
theorem Fac.setO {s : Nat} {v : Option Obj} {p : (α → Prog) → Prog} (h : Fac p) : Fac fun K => Prog.setO s v (p K) := fun σ => by
  by_cases hs : s < σ.objs.length
  · rcases h (σ.setO s v) with h1 | ⟨a, σ', rs, ws, h1⟩
    · exact .inl fun K => by simp only [Prog.run, if_pos hs]; exact h1 K
    · exact .inr ⟨a, σ', rs, .obj s :: ws, fun K => ⟨by simp only [Prog.run, if_pos hs]; exact (h1 K).1, by simp only [Prog.foot, (h1 K).2, List.cons_append]⟩⟩
  · exact .inl fun K => by simp only [Prog.run, if_neg hs]
theorem Fac.bind {p : (β → Prog) → Prog} {q : β → (α → Prog) → Prog} (hp : Fac p) (hq : ∀ b, Fac (q b)) : Fac fun K => p fun b => q b K := fun σ => by
  rcases hp σ with h1 | ⟨b, σ', rs, ws, h1⟩
  · exact .inl fun K => h1 _
  · rcases hq b σ' with h2 | ⟨a, σ2, rs2, ws2, h2⟩
    · exact .inl fun K => by rw [(h1 _).1]; exact h2 K
    · exact .inr ⟨a, σ2, rs ++ rs2, ws ++ ws2, fun K => ⟨by rw [(h1 _).1]; exact (h2 K).1, by rw [(h1 _).2, (h2 K).2]; simp only [List.append_assoc]⟩⟩
theorem Fac.ite {c : Prop} [Decidable c] {p q : (α → Prog) → Prog} (hp : Fac p) (hq : Fac q) : Fac fun K => if c then p K else q K := by
  by_cases h : c
  · simp only [if_pos h]; exact hp
  · simp only [if_neg h]; exact hq
theorem Fac.map {p : (β → Prog) → Prog} (hp : Fac p) (f : β → α) : Fac fun (K : α → Prog) => p fun b => K (f b) := Fac.bind hp fun b => Fac.k (f b)
end
theorem fac_gOpd (x : Opd) : Fac (gOpd x) := by
  cases x with
  | tmp t => exact Fac.getS fun v => Fac.k v
  | val v => exact Fac.k v
theorem fac_gHome (h : Home) : Fac (gHome h) := by
  cases h with
  | slot s off =>
    refine Fac.getS fun v => ?_
    split
    · exact Fac.k _
    · exact Fac.fail
  | obj o off =>
    refine Fac.getO fun v => ?_
    split
    · split
      · exact Fac.k _
      · exact Fac.fail
    · exact Fac.fail
theorem fac_sHome (h : Home) (x : V) : Fac fun (K : Unit → Prog) => sHome h x (K ()) := by
  cases h with
  | slot s off => exact Fac.getS fun v => Fac.ite (Fac.setS (Fac.k ())) Fac.fail
  | obj o off =>
    refine Fac.getO fun v => ?_
    split
    · exact Fac.ite (Fac.setO (Fac.k ())) Fac.fail
    · exact Fac.fail
theorem fac_gElems (h : Home) (g sz : Nat) : Fac fun (K : Bool × List V → Prog) => gElems h g sz fun b es => K (b, es) := by
  refine Fac.bind (fac_gHome h) fun v => ?_
  cases v <;> first | exact Fac.fail | exact Fac.ite (Fac.k _) Fac.fail
theorem fac_gCells (r : Ref) (n : Nat) : Fac (gCells r n) := by
  cases r with
  | obj o off =>
    refine Fac.getO fun v => ?_
    split
    · exact Fac.ite (Fac.k _) Fac.fail
    · exact Fac.fail
  | elem h g sz i off =>
    refine Fac.bind (p := fun K => gElems h g sz fun b es => K (b, es)) (q := fun b K => match b.2[i]? with
      | some e => if off + n ≤ e.cells.length then K ((e.cells.drop off).take n) else .fail
      | none => .fail) (fac_gElems h g sz) fun b => ?_
    split
    · exact Fac.ite (Fac.k _) Fac.fail
    · exact Fac.fail
theorem fac_settle1 (h : Option Home) (v : V) : Fac (settle1 h v) := by
  cases v with
  | srf h' g sz off len =>
    refine Fac.bind (p := gHome h') (q := fun (x : V) (k : V → Prog) => match x with
      | .xsl g' sz' es =>
        if g' = g ∧ sz' = sz ∧ off + len ≤ es.length then
          if h = some h' then sHome h' (.gone (g + 1)) (k (.xsl 0 sz ((es.drop off).take len)))
          else sHome h' (.fsl g sz es) (k (.isl 0 sz ((es.drop off).take len)))
        else .fail
      | .fsl g' sz' es =>
        if g' = g ∧ sz' = sz ∧ off + len ≤ es.length then
          if h = some h' then sHome h' (.gone (g + 1)) (k (if off + len = es.length then .fsl 0 sz ((es.drop off).take len) else .isl 0 sz ((es.drop off).take len)))
          else k (.isl 0 sz ((es.drop off).take len))
        else .fail
      | .isl g' sz' es => if g' = g ∧ sz' = sz ∧ off + len ≤ es.length then k (.isl 0 sz ((es.drop off).take len)) else .fail
      | _ => .fail) (fac_gHome h') fun x => ?_
    cases x with
    | xsl => exact Fac.ite (Fac.ite (Fac.bind (fac_sHome _ _) fun _ => Fac.k _) (Fac.bind (fac_sHome _ _) fun _ => Fac.k _)) Fac.fail
    | fsl => exact Fac.ite (Fac.ite (Fac.bind (fac_sHome _ _) fun _ => Fac.k _) (Fac.k _)) Fac.fail
    | isl => exact Fac.ite (Fac.k _) Fac.fail
    | _ => exact Fac.fail
  | _ => exact Fac.k _
theorem fac_settle (mk : Nat → Option Home) : ∀ (vs : List V) (i : Nat), Fac (settle mk i vs)
  | [], _ => Fac.k []
  | v :: vs, i => Fac.bind (p := settle1 (mk i) v) (q := fun v' K => settle mk (i + 1) vs fun vs' => K (v' :: vs')) (fac_settle1 (mk i) v) fun v' => Fac.bind (p := settle mk (i + 1) vs) (q := fun vs' K => K (v' :: vs')) (fac_settle mk vs (i + 1)) fun _ => Fac.k _
theorem fac_lendArg (x : Opd) : Fac (lendArg x) := by
  refine Fac.bind (p := gOpd x) (q := fun (v : V) (k : V → Prog) => match x, v with
    | _, .tup _ => .fail
    | .tmp t, v => settle (fun _ => none) 0 (borrows (.slot t) 0 v.leaves) fun ls => k (v.withLeaves (ls.map freeze1))
    | .val _, v => k (v.withLeaves (v.leaves.map freeze1))) (fac_gOpd x) fun v => ?_
  split
  · exact Fac.fail
  · exact Fac.bind (p := settle _ _ _) (q := fun ls k => k (_)) (fac_settle _ _ _) fun ls => Fac.k _
  · exact Fac.k _
theorem fac_lendArgs : ∀ xs, Fac (lendArgs xs)
  | [] => Fac.k []
  | x :: xs => Fac.bind (p := lendArg x) (q := fun v k => lendArgs xs fun vs => k (v :: vs)) (fac_lendArg x) fun v => Fac.bind (p := lendArgs xs) (q := fun vs k => k (v :: vs)) (fac_lendArgs xs) fun _ => Fac.k _
theorem fac_gThere1 (v : V) : Fac fun (K : Unit → Prog) => gThere1 v (K ()) := by
  cases v with
  | ptr r =>
    cases r with
    | obj => exact Fac.k ()
    | elem h g sz i off => exact Fac.bind (p := fun K => gElems h g sz fun b es => K (b, es)) (fac_gElems h g sz) fun _ => Fac.k ()
  | _ => exact Fac.k ()
theorem fac_gTheres : ∀ vs, Fac fun (K : Unit → Prog) => gTheres vs (K ())
  | [] => Fac.k ()
  | v :: vs => Fac.bind (fac_gThere1 v) fun _ => fac_gTheres vs
theorem fac_reach : ∀ (n : Nat) (todo acc : List Nat), Fac (reach n todo acc)
  | 0, [], acc => Fac.k acc
  | _ + 1, [], acc => Fac.k acc
  | 0, _ :: _, _ => Fac.fail
  | n + 1, o :: todo, acc => by
    show Fac fun k => if o ∈ acc then reach n todo acc k
    else .getO o fun
      | some (.cells cs) => reach n (todo ++ V.objIds.idsIn cs) (acc ++ [o]) k
      | _ => .fail
    refine Fac.ite (fac_reach n _ _) (Fac.getO fun v => ?_)
    split
    · exact fac_reach n _ _
    · exact Fac.fail
theorem fac_getObjs : ∀ os, Fac (getObjs os)
  | [] => Fac.k []
  | o :: os => by
    refine Fac.getO fun v => ?_
    split
    · exact Fac.bind (p := getObjs os) (q := fun xs k => k (_ :: xs)) (fac_getObjs os) fun _ => Fac.k _
    · exact Fac.fail
theorem fac_pres0 (v : V) : Fac (pres0 v) := by
  cases v with
  | srf h g sz off len => exact Fac.bind (p := fun K => gElems h g sz fun b es => K (b, es)) (q := fun (b : Bool × List V) (k : V → Prog) => if off + len ≤ b.2.length then k (.isl 0 sz ((b.2.drop off).take len)) else .fail) (fac_gElems _ _ _) fun b => Fac.ite (Fac.k _) Fac.fail
  | asl r len => exact Fac.bind (p := gCells r len) (q := fun (cs : List V) (k : V → Prog) => if cs.all V.flat then k (.isl 0 1 cs) else .fail) (fac_gCells _ _) fun b => Fac.ite (Fac.k _) Fac.fail
  | func f caps => exact Fac.ite (Fac.k _) Fac.fail
  | ptr _ => exact Fac.fail
  | map _ => exact Fac.fail
  | agg _ => exact Fac.fail
  | tup _ => exact Fac.fail
  | _ => exact Fac.k _
theorem fac_press0 : ∀ vs, Fac (press0 vs)
  | [] => Fac.k []
  | v :: vs => Fac.bind (p := pres0 v) (q := fun v' k => press0 vs fun vs' => k (v' :: vs')) (fac_pres0 v) fun v' => Fac.bind (p := press0 vs) (q := fun vs' k => k (v' :: vs')) (fac_press0 vs) fun _ => Fac.k _
theorem fac_pres1 (v : V) : Fac (pres1 v) := by
  by_cases h : ∃ o off, v = .ptr (.obj o off)
  · obtain ⟨o, off, rfl⟩ := h
    refine Fac.getO fun x => ?_
    split
    · exact Fac.bind (p := press0 _) (q := fun (ls : List V) (k : V → Prog) => if ls.all V.inElem then k (.iptr ls) else .fail) (fac_press0 _) fun ls => Fac.ite (Fac.k _) Fac.fail
    · exact Fac.fail
  · have e : pres1 v = pres0 v := by
      funext k
      unfold pres1
      split
      · exact absurd ⟨_, _, rfl⟩ h
      · rfl
    rw [e]
    exact fac_pres0 v
theorem fac_press : ∀ vs, Fac (press vs)
  | [] => Fac.k []
  | v :: vs => Fac.bind (p := pres1 v) (q := fun v' k => press vs fun vs' => k (v' :: vs')) (fac_pres1 v) fun v' => Fac.bind (p := press vs) (q := fun vs' k => k (v' :: vs')) (fac_press vs) fun _ => Fac.k _
theorem fac_presArg (x : Opd) : Fac (presArg x) := by
  refine Fac.bind (p := gOpd x) (q := fun (v : V) (k : V → Prog) => match v with
    | .tup _ => .fail
    | v => press v.leaves fun ls => k (v.withLeaves ls)) (fac_gOpd x) fun v => ?_
  split
  · exact Fac.fail
  · exact Fac.bind (p := press _) (q := fun ls k => k (_)) (fac_press _) fun ls => Fac.k _
theorem fac_presArgs : ∀ xs, Fac (presArgs xs)
  | [] => Fac.k []
  | x :: xs => Fac.bind (p := presArg x) (q := fun v k => presArgs xs fun vs => k (v :: vs)) (fac_presArg x) fun v => Fac.bind (p := presArgs xs) (q := fun vs k => k (v :: vs)) (fac_presArgs xs) fun _ => Fac.k _
theorem fac_drain (x : Opd) : Fac fun (K : Unit → Prog) => drain x (K ()) := by
  cases x with
  | tmp t => exact Fac.getS fun v => Fac.ite (Fac.setS (Fac.k ())) (Fac.k ())
  | val v => exact Fac.k ()
theorem fac_gMove (mk : Nat → Option Home) (x : Opd) : Fac (gMove mk x) := by
  refine Fac.bind (p := gOpd x) (q := fun (v : V) (k : V → Prog) => if v.plain then k v else drain x <| settle mk 0 v.leaves fun ls => k (v.withLeaves ls)) (fac_gOpd x) fun v => ?_
  exact Fac.ite (Fac.k _) (Fac.bind (p := fun K => drain x (K ())) (q := fun _ K => settle mk 0 v.leaves fun ls => K (v.withLeaves ls)) (fac_drain x) fun _ => Fac.bind (p := settle _ _ _) (q := fun ls k => k (_)) (fac_settle _ _ _) fun ls => Fac.k _)
theorem fac_moveArg (x : Opd) : Fac (moveArg x) := Fac.bind (p := gOpd x) (q := fun (v : V) (k : V → Prog) => gMove (srcHome v) x k) (fac_gOpd x) fun v => fac_gMove _ _
theorem fac_moveArgs : ∀ mv xs, Fac (moveArgs mv xs)
  | _, [] => Fac.k []
  | mv, x :: xs => by
    show Fac fun k => if mv % 2 = 1 then moveArg x fun v => moveArgs (mv / 2) xs fun vs => k (v :: vs) else lendArg x fun v => moveArgs (mv / 2) xs fun vs => k (v :: vs)
    refine Fac.ite ?_ ?_
    · exact Fac.bind (p := moveArg x) (q := fun v k => moveArgs (mv / 2) xs fun vs => k (v :: vs)) (fac_moveArg x) fun v => Fac.bind (p := moveArgs (mv / 2) xs) (q := fun vs k => k (v :: vs)) (fac_moveArgs _ xs) fun _ => Fac.k _
    · exact Fac.bind (p := lendArg x) (q := fun v k => moveArgs (mv / 2) xs fun vs => k (v :: vs)) (fac_lendArg x) fun v => Fac.bind (p := moveArgs (mv / 2) xs) (q := fun vs k => k (v :: vs)) (fac_moveArgs _ xs) fun _ => Fac.k _
theorem callR_once {cal : Callee} {f : FuncId} {first : Nat} {dst : Option Nat} {p : (List V → Prog) → Prog} (hp : Fac p) {σ σ1 : St} (h : (p fun vs => callR cal f first dst vs).run σ = some σ1) :
    ∃ vs os r, cal f vs os = some r ∧ ∀ cal' : Callee, cal' f vs os = some r → (p fun vs => callR cal' f first dst vs).run σ = some σ1 ∧ (p fun vs => callR cal' f first dst vs).foot σ = (p fun vs => callR cal f first dst vs).foot σ := by
    have hf : Fac fun (K : List V × List Nat × List Obj → Prog) => p fun vs => gTheres (vs.flatMap V.leaves) <| reach 64 (V.objIds.idsIn vs) [] fun ids => getObjs ids fun os => K (vs, ids, os) :=
      Fac.bind hp fun vs => Fac.bind (p := fun (K : Unit → Prog) => gTheres (vs.flatMap V.leaves) (K ())) (q := fun _ K => reach 64 (V.objIds.idsIn vs) [] fun ids => getObjs ids fun os => K (vs, ids, os)) (fac_gTheres _) fun _ => Fac.bind (fac_reach _ _ _) fun ids => Fac.bind (fac_getObjs _) fun os => Fac.k _
    obtain ⟨B, hB⟩ : ∃ B : Callee → List V × List Nat × List Obj → Prog, B = fun c x => if x.2.1.Nodup then
      match rens (findIdx x.2.1) x.1, x.2.2.mapM (objRen (findIdx x.2.1)) with
      | some vs', some os' =>
        match c f vs' os' with
        | some (r, os'') =>
          match r.ren ((x.2.1 ++ newIds first (os''.length - x.2.1.length))[·]?), os''.mapM (objRen ((x.2.1 ++ newIds first (os''.length - x.2.1.length))[·]?)) with
          | some r', some os3 =>
            if ¬ (x.2.1 ++ newIds first (os''.length - x.2.1.length)).Nodup ∨ os''.length < x.2.1.length then .fail else
            setObjs x.2.1 (os3.take x.2.1.length) <| newObjs first (os3.drop x.2.1.length) <| resRef r' fun r'' => putO dst r'' .ret
          | _, _ => .fail
        | none => .fail
      | _, _ => .fail
    else .fail := ⟨_, rfl⟩
    have hun : ∀ c : Callee, (p fun vs => callR c f first dst vs) = p fun vs => gTheres (vs.flatMap V.leaves) <| reach 64 (V.objIds.idsIn vs) [] fun ids => getObjs ids fun os => B c (vs, ids, os) := fun c => by rw [hB]; rfl
    rcases hf σ with h1 | ⟨⟨vs, ids, os⟩, σ', rs, ws, h1⟩
    · rw [hun, h1] at h; cases h
    · rw [hun, (h1 _).1, hB] at h
      dsimp only at h
      split at h
      · rename_i hnd
        split at h
        · rename_i vs' os' hv ho
          split at h
          · rename_i r os2 hr
            refine ⟨vs', os', (r, os2), hr, fun cal' hc => ?_⟩
            rw [hun, hun, (h1 _).1, (h1 _).2, (h1 _).2, hB]
            simp only [if_pos hnd, hv, ho, hr, hc]
            exact ⟨h, trivial⟩
          · cases h
        · cases h
      · cases h
theorem callP_once {cal : Callee} {ap : Bool} {f : FuncId} {first : Nat} {dst : Option Nat} {args : List Opd} {caps : List V} {σ σ1 : St} (h : (callP cal ap f first dst args caps).run σ = some σ1) :
    ∃ vs os r, cal f vs os = some r ∧ ∀ cal' : Callee, cal' f vs os = some r → (callP cal' ap f first dst args caps).run σ = some σ1 ∧ (callP cal' ap f first dst args caps).foot σ = (callP cal ap f first dst args caps).foot σ := by
  cases ap with
  | true =>
    rcases fac_presArgs args σ with h1 | ⟨vs, σ', rs, ws, h1⟩
    · unfold callP at h; simp only [if_true] at h; rw [h1] at h; cases h
    · unfold callP at h
      simp only [if_true] at h
      rw [(h1 _).1] at h
      split at h
      · rename_i hi
        split at h
        · rename_i r hr
          refine ⟨_, _, _, hr, fun cal' hc => ?_⟩
          unfold callP
          simp only [if_true]
          rw [(h1 _).1, (h1 _).2, (h1 _).2]
          simp only [if_pos hi, hr, hc]
          exact ⟨h, trivial⟩
        · cases h
      · cases h
  | false => exact callR_once (p := fun K => lendArgs args fun vs => K (vs ++ caps)) (Fac.map (fac_lendArgs args) fun vs => vs ++ caps) h
end Go.Vq
namespace Go.Vq
open Classical in
noncomputable def lim (G : VProg) : Callee := fun f args objs => if h : ∃ r, ∃ n, ∀ m, n ≤ m → call G m f args objs = some r then some (Classical.choose h) else none
open Classical in
noncomputable def limX (G : VProg) (base : Nat) (c : VCode) (σ : St) : Option (Out × St) := if h : ∃ r, ∃ n, ∀ m, n ≤ m → exec G m base c σ = some r then some (Classical.choose h) else none
section
variable {G : VProg} {f : FuncId} {args : List V} {objs : List Obj} {r : V × List Obj} {base : Nat} {σ σ1 : St}
theorem lim_of {n : Nat} (h : ∀ m, n ≤ m → call G m f args objs = some r) : lim G f args objs = some r := by
  have h' : ∃ r, ∃ n, ∀ m, n ≤ m → call G m f args objs = some r := ⟨r, n, h⟩
  unfold lim
  rw [dif_pos h']
  obtain ⟨n', h2⟩ := Classical.choose_spec h'
  have e1 := h2 (max n n') (by omega)
  have e2 := h (max n n') (by omega)
  rw [e2] at e1
  exact e1.symm
theorem lim_ev (h : lim G f args objs = some r) : ∃ n, ∀ m, n ≤ m → call G m f args objs = some r := by
  unfold lim at h
  split at h
  · rename_i h'
    cases h
    exact Classical.choose_spec h'
  · cases h
theorem limX_of {c : VCode} {x : Out × St} {n : Nat} (h : ∀ m, n ≤ m → exec G m base c σ = some x) : limX G base c σ = some x := by
  have h' : ∃ r, ∃ n, ∀ m, n ≤ m → exec G m base c σ = some r := ⟨x, n, h⟩
  unfold limX
  rw [dif_pos h']
  obtain ⟨n', h2⟩ := Classical.choose_spec h'
  have e1 := h2 (max n n') (by omega)
  have e2 := h (max n n') (by omega)
  rw [e2] at e1
  exact e1.symm
theorem limX_ev {c : VCode} {x : Out × St} (h : limX G base c σ = some x) : ∃ n, ∀ m, n ≤ m → exec G m base c σ = some x := by
  unfold limX at h
  split at h
  · rename_i h'
    cases h
    exact Classical.choose_spec h'
  · cases h
theorem op_lim {d : Option Nat} {op : VOp} (h : (opProg (lim G) base d op).run σ = some σ1) : ∃ n, ∀ m, n ≤ m → (opProg (call G m) base d op).run σ = some σ1 ∧ (opProg (call G m) base d op).foot σ = (opProg (lim G) base d op).foot σ := by
  have hcall : ∀ {ap : Bool} {f : FuncId} {first : Nat} {args : List Opd} {caps : List V} {σ : St}, (callP (lim G) ap f first d args caps).run σ = some σ1 → ∃ n, ∀ m, n ≤ m → (callP (call G m) ap f first d args caps).run σ = some σ1 ∧ (callP (call G m) ap f first d args caps).foot σ = (callP (lim G) ap f first d args caps).foot σ := by
    intro ap f first args caps σ h
    obtain ⟨vs, os, r, hr, h2⟩ := callP_once h
    obtain ⟨n, hn⟩ := lim_ev hr
    exact ⟨n, fun m hm => h2 _ (hn m hm)⟩
  cases op with
  | call ap f site args => exact hcall h
  | callm mv f site args =>
    obtain ⟨vs, os, r, hr, h2⟩ := callR_once (fac_moveArgs mv args) h
    obtain ⟨n, hn⟩ := lim_ev hr
    exact ⟨n, fun m hm => h2 _ (hn m hm)⟩
  | callv ap x site args =>
    obtain ⟨B, hB⟩ : ∃ B : Callee → V → Prog, ∀ c, opProg c base d (.callv ap x site args) = gOpd x (B c) ∧ (∀ f caps, B c (.func f caps) = callP c ap f (base + site) d args caps) ∧ ∀ v, (∀ f caps, v ≠ .func f caps) → B c v = .fail :=
      ⟨_, fun c => ⟨rfl, fun _ _ => rfl, fun v hv => by cases v <;> first | rfl | exact absurd rfl (hv _ _)⟩⟩
    have key : ∀ (v : V) (σ' : St), (B (lim G) v).run σ' = some σ1 → ∃ n, ∀ m, n ≤ m → (B (call G m) v).run σ' = some σ1 ∧ (B (call G m) v).foot σ' = (B (lim G) v).foot σ' := by
      intro v σ' hv
      by_cases hf : ∃ f caps, v = .func f caps
      · obtain ⟨f, caps, rfl⟩ := hf
        rw [(hB _).2.1] at hv
        obtain ⟨n, hn⟩ := hcall hv
        exact ⟨n, fun m hm => by rw [(hB _).2.1, (hB _).2.1]; exact hn m hm⟩
      · rw [(hB _).2.2 v (fun f caps e => hf ⟨f, caps, e⟩)] at hv; cases hv
    rw [(hB _).1] at h
    cases x with
    | tmp t =>
      obtain ⟨n, hn⟩ := key _ σ h
      refine ⟨n, fun m hm => ?_⟩
      rw [(hB _).1, (hB _).1]
      refine ⟨(hn m hm).1, ?_⟩
      exact congrArg (fun r : List Loc × List Loc => (Loc.slot t :: r.1, r.2)) (hn m hm).2
    | val v =>
      obtain ⟨n, hn⟩ := key v σ h
      refine ⟨n, fun m hm => ?_⟩
      rw [(hB _).1, (hB _).1]
      exact hn m hm
  | eq neg k x y => cases k <;> exact ⟨0, fun m _ => ⟨h, rfl⟩⟩
  | _ => exact ⟨0, fun m _ => ⟨h, rfl⟩⟩
theorem oper_lim {o : VOper} (h : (o.prog (lim G) base).run σ = some σ1) : ∃ n, ∀ m, n ≤ m → (o.prog (call G m) base).run σ = some σ1 ∧ (o.prog (call G m) base).foot σ = (o.prog (lim G) base).foot σ := by
  obtain ⟨dst, op, guard, before⟩ := o
  cases guard with
  | none => exact op_lim h
  | some g =>
    obtain ⟨s, want⟩ := g
    obtain ⟨B, hB⟩ : ∃ B : Callee → V → Prog, ∀ c, VOper.prog c base ⟨dst, op, some (s, want), before⟩ = .getS s (B c) ∧ (∀ b, B c (.bool b) = if b == want then opProg c base dst op else skipP dst) ∧ (B c (.tup []) = skipP dst) ∧ ∀ v, (∀ b, v ≠ .bool b) → v ≠ .tup [] → B c v = .fail :=
      ⟨_, fun c => ⟨rfl, fun _ => rfl, rfl, fun v hv hv2 => by
        cases v <;> first | rfl | exact absurd rfl (hv _) | (rename_i l; cases l <;> first | rfl | exact absurd rfl hv2)⟩⟩
    have key : ∀ v : V, (B (lim G) v).run σ = some σ1 → ∃ n, ∀ m, n ≤ m → (B (call G m) v).run σ = some σ1 ∧ (B (call G m) v).foot σ = (B (lim G) v).foot σ := by
      intro v hv
      by_cases h1 : ∃ b, v = .bool b
      · obtain ⟨b, rfl⟩ := h1
        rw [(hB _).2.1] at hv
        cases hb : b == want
        · simp only [hb, Bool.false_eq_true, if_false] at hv
          exact ⟨0, fun m _ => by rw [(hB _).2.1, (hB _).2.1]; simp only [hb, Bool.false_eq_true, if_false]; exact ⟨hv, trivial⟩⟩
        · simp only [hb, if_true] at hv
          obtain ⟨n, hn⟩ := op_lim hv
          exact ⟨n, fun m hm => by rw [(hB _).2.1, (hB _).2.1]; simp only [hb, if_true]; exact hn m hm⟩
      · by_cases h2 : v = .tup []
        · subst h2
          rw [(hB _).2.2.1] at hv
          exact ⟨0, fun m _ => by rw [(hB _).2.2.1, (hB _).2.2.1]; exact ⟨hv, rfl⟩⟩
        · rw [(hB _).2.2.2 v (fun b e => h1 ⟨b, e⟩) h2] at hv; cases hv
    rw [(hB _).1] at h
    obtain ⟨n, hn⟩ := key _ h
    refine ⟨n, fun m hm => ?_⟩
    rw [(hB _).1, (hB _).1]
    exact ⟨(hn m hm).1, congrArg (fun r : List Loc × List Loc => (Loc.slot s :: r.1, r.2)) (hn m hm).2⟩
theorem runOps_lim : ∀ {ops : List VOper} {σ : St}, runOps (lim G) base ops σ = some σ1 → ∃ n, ∀ m, n ≤ m → runOps (call G m) base ops σ = some σ1
  | [], σ, h => ⟨0, fun _ _ => h⟩
  | o :: os, σ, h => by
    simp only [runOps] at h
    split at h
    · rename_i σ2 h2
      obtain ⟨n, hn⟩ := oper_lim h2
      obtain ⟨n', hn'⟩ := runOps_lim h
      exact ⟨max n n', fun m hm => by simp only [runOps, (hn m (by omega)).1]; exact hn' m (by omega)⟩
    · cases h
theorem runDraw_lim : ∀ {ops : List VOper} {done : List (List Loc × List Loc)} {σ : St}, runDraw (lim G) base ops done σ = some σ1 → ∃ n, ∀ m, n ≤ m → runDraw (call G m) base ops done σ = some σ1
  | [], _, σ, h => ⟨0, fun _ _ => h⟩
  | o :: os, done, σ, h => by
    simp only [runDraw] at h
    split at h
    · cases h
    · rename_i hc
      split at h
      · rename_i σ2 h2
        obtain ⟨n, hn⟩ := oper_lim h2
        obtain ⟨n', hn'⟩ := runDraw_lim h
        exact ⟨max n n', fun m hm => by simp only [runDraw, (hn m (by omega)).1, (hn m (by omega)).2, if_neg hc]; exact hn' m (by omega)⟩
      · cases h
theorem rounds_lim {one : List V → St → Option (Out × St)} {oneM : Nat → List V → St → Option (Out × St)} {next : St → St} (ho : ∀ y σ x, one y σ = some x → ∃ n, ∀ m, n ≤ m → oneM m y σ = some x) :
    ∀ {xs : List (List V)} {σ : St} {x : Out × St}, rounds one next xs σ = some x → ∃ n, ∀ m, n ≤ m → rounds (oneM m) next xs σ = some x
  | [], σ, x, h => ⟨0, fun _ _ => h⟩
  | y :: ys, σ, x, h => by
    simp only [rounds] at h
    split at h
    · rename_i σ2 h2
      obtain ⟨n, hn⟩ := ho _ _ _ h2
      obtain ⟨n', hn'⟩ := rounds_lim ho h
      exact ⟨max n n', fun m hm => by simp only [rounds, hn m (by omega)]; exact hn' m (by omega)⟩
    · rename_i o σ2 hne h2
      obtain ⟨n, hn⟩ := ho _ _ _ h2
      refine ⟨n, fun m hm => ?_⟩
      simp only [rounds, hn m hm]
      cases o with
      | normal => exact absurd rfl hne
      | _ => exact h
    · cases h
theorem step_lim {its : FuncId → Iter} : ∀ {c : VCode} {base : Nat} {σ : St} {x : Out × St}, step (lim G) its (limX G) base c σ = some x → ∃ n, ∀ m, n ≤ m → step (call G m) its (exec G m) base c σ = some x
  | .skip, _, _, _, h => ⟨0, fun _ _ => h⟩
  | .exit _, _, _, _, h => ⟨0, fun _ _ => h⟩
  | .ret, _, _, _, h => ⟨0, fun _ _ => h⟩
  | .bad, _, _, _, h => by cases h
  | .region ops draw, base, σ, x, h => by
    cases draw with
    | true =>
      simp only [step, if_true] at h ⊢
      cases hr : runDraw (lim G) base ops [] σ with
      | none => rw [hr] at h; cases h
      | some σ2 =>
        rw [hr] at h
        obtain ⟨n, hn⟩ := runDraw_lim hr
        exact ⟨n, fun m hm => by rw [hn m hm]; exact h⟩
    | false =>
      simp only [step, Bool.false_eq_true, if_false] at h ⊢
      cases hr : runOps (lim G) base ops σ with
      | none => rw [hr] at h; cases h
      | some σ2 =>
        rw [hr] at h
        obtain ⟨n, hn⟩ := runOps_lim hr
        exact ⟨n, fun m hm => by rw [hn m hm]; exact h⟩
  | .seq a b, base, σ, x, h => by
    simp only [step] at h
    cases ha : step (lim G) its (limX G) base a σ with
    | none => rw [ha] at h; cases h
    | some y =>
      obtain ⟨o, σ2⟩ := y
      obtain ⟨n, hn⟩ := step_lim (c := a) ha
      rw [ha] at h
      cases o with
      | normal =>
        obtain ⟨n', hn'⟩ := step_lim (c := b) h
        exact ⟨max n n', fun m hm => by simp only [step, hn m (by omega)]; exact hn' m (by omega)⟩
      | exit i => exact ⟨n, fun m hm => by simp only [step, hn m hm]; exact h⟩
      | ret => exact ⟨n, fun m hm => by simp only [step, hn m hm]; exact h⟩
  | .cond c a b, base, σ, x, h => by
    simp only [step] at h ⊢
    cases hc : condV c σ with
    | none => rw [hc] at h; cases h
    | some t =>
      rw [hc] at h
      cases t with
      | true => exact step_lim (c := a) h
      | false => exact step_lim (c := b) h
  | .block id keep a, base, σ, x, h => by
    simp only [step] at h
    cases ha : step (lim G) its (limX G) base a σ with
    | none => rw [ha] at h; cases h
    | some y =>
      obtain ⟨o, σ2⟩ := y
      obtain ⟨n, hn⟩ := step_lim (c := a) ha
      rw [ha] at h
      exact ⟨n, fun m hm => by simp only [step, hn m hm]; exact h⟩
  | .loop keep a, base, σ, x, h => by
    simp only [step] at h
    cases ha : step (lim G) its (limX G) base a (rebase? keep base σ) with
    | none => rw [ha] at h; cases h
    | some y =>
      obtain ⟨o, σ2⟩ := y
      obtain ⟨n, hn⟩ := step_lim (c := a) ha
      rw [ha] at h
      cases o with
      | normal =>
        obtain ⟨n', hn'⟩ := limX_ev h
        exact ⟨max n n', fun m hm => by simp only [step, hn m (by omega)]; exact hn' m (by omega)⟩
      | exit i => exact ⟨n, fun m hm => by simp only [step, hn m hm]; exact h⟩
      | ret => exact ⟨n, fun m hm => by simp only [step, hn m hm]; exact h⟩
  | .range x0 ps site keep a b, base, σ, x, h => by
    simp only [step, rangeGo] at h ⊢
    generalize opdV x0 σ = v at h ⊢
    cases v with
    | func g caps =>
      dsimp only at h ⊢
      cases hb : boxesOf caps with
      | none => rw [hb] at h; cases h
      | some bs =>
        rw [hb] at h
        dsimp only at h ⊢
        cases hi : its g bs with
        | none => rw [hi] at h; cases h
        | some y =>
          obtain ⟨ar, xs⟩ := y
          rw [hi] at h
          dsimp only at h ⊢
          split at h
          · rename_i har
            simp only [if_pos har]
            refine rounds_lim (oneM := fun m y σ1 => match step (call G m) its (exec G m) (base + site) a (setPs ps y σ1) with
              | some (.normal, σ2) => step (call G m) its (exec G m) (base + site) b σ2
              | _ => none) (fun y σ1 x h => ?_) h
            cases ha : step (lim G) its (limX G) (base + site) a (setPs ps y σ1) with
            | none => rw [ha] at h; cases h
            | some z =>
              obtain ⟨o, σ2⟩ := z
              obtain ⟨n, hn⟩ := step_lim (c := a) ha
              rw [ha] at h
              cases o with
              | normal =>
                obtain ⟨n', hn'⟩ := step_lim (c := b) h
                exact ⟨max n n', fun m hm => by simp only [hn m (by omega)]; exact hn' m (by omega)⟩
              | exit i => cases h
              | ret => cases h
          · cases h
    | _ => cases h
theorem limX_step {c : VCode} {x : Out × St} (h : step (lim G) (itersOf G) (limX G) base c σ = some x) : limX G base c σ = some x := by
  obtain ⟨n, hn⟩ := step_lim h
  refine limX_of (n := n + 1) fun m hm => ?_
  obtain ⟨k, rfl⟩ : ∃ k, m = k + 1 := ⟨m - 1, by omega⟩
  exact hn k (by omega)
theorem lim_code {fn : VFunc} {o : Out} {res : V × List Obj} (hf : G f = some (.code fn)) (hl : args.length = fn.nparams ∧ fn.nparams ≤ fn.ntmps) (h : step (lim G) (itersOf G) (limX G) objs.length fn.body (start fn args objs) = some (o, σ)) (ho : o = .normal ∨ o = .ret)
    (hr : finish fn objs.length σ = some res) : lim G f args objs = some res := by
  obtain ⟨n, hn⟩ := limX_ev (limX_step h)
  exact lim_of (n := n) fun m hm => call_code hf hl (hn m hm) ho hr
theorem lim_prim {run : List V → List Obj → Option (V × List Obj)} (hf : G f = some (.prim run)) (h : run args objs = some r) : lim G f args objs = some r := lim_of (n := 0) fun m _ => by rw [call_prim hf]; exact h
end
end Go.Vq
