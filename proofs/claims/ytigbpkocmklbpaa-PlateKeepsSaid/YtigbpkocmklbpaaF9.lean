/- A machine of values and its tie to the model, and runs of it: part 9 of 14 (no law of Go is stated here). -/
import Derived.Test.YtigbpkocmklbpaaF8
set_option linter.unusedVariables false
set_option linter.unusedSimpArgs false
set_option linter.unusedSectionVars false
namespace Go.Vq
def Args (w : World) (vs : List V) (xs : List Value) : Prop := vs.length = xs.length ∧ ∀ (i : Nat) (v : V) (x : Value), vs[i]? = some v → xs[i]? = some x → RelE (env0 w.heap) w.heap v x
theorem Args.nil (w : World) : Args w [] [] := ⟨rfl, fun i v x h => by simp at h⟩
theorem Args.cons {w : World} {v : V} {x : Value} {vs : List V} {xs : List Value} (h : RelE (env0 w.heap) w.heap v x) (hs : Args w vs xs) : Args w (v :: vs) (x :: xs) := by
  refine ⟨by simp [hs.1], fun i u y hu hy => ?_⟩
  cases i with
  | zero => simp at hu hy; subst hu hy; exact h
  | succ i => exact hs.2 i u y (by simpa using hu) (by simpa using hy)
theorem relE_leaf {E : Env} {H : Array Go.Obj} {v : V} {x : Value} (hl : v.leaf = true) (h : RelI E.imm H v x) : RelE E H v x := by
  have hx := relI_leafX h hl
  have hag : aggX x = false := by cases x <;> first | rfl | simp [leafX] at hx
  refine ⟨(shape1_leaf hl).2 hag, fun j u z hu hz => ?_⟩
  rw [cells_leaf hl] at hu; rw [vcells_leaf hag] at hz
  cases j with
  | zero => simp at hu hz; subst hu hz; exact ⟨hl, h⟩
  | succ j => simp at hu
theorem Args.core {w : World} {vs : List V} {xs : List Value} (h : Args w vs xs) : Core 0 (env0 w.heap) vs (([] : List Obj).map some) xs w.heap := by
  refine ⟨h.1, Nat.zero_le _, fun s v x hv hx => (relE_slot (h.2 s v x hv hx) _ _ _ _).1, fun o cs ho => by simp at ho, (core0 w.heap).fresh, fun s v hv r hr => ?_⟩
  obtain ⟨x, hx⟩ := exists_getElem? (l := xs) (i := s) (by rw [← h.1]; exact lt_of_getElem? hv)
  rw [(relE_slot (h.2 s v x hv hx) [] [] [] 0).2] at hr
  cases hr
theorem true_walk_args {P : Program} {G : VProg} (hG : GOk P G) {f : FuncId} {M : Nat} {vs : List V} {xs : List Value} (h : call G M f vs [] = some (.bool true, [])) (w : World) (ha : Args w vs xs) :
    Calls P f xs.toArray w fun e w' => e = .returned (.bool true) ∧ Still w w' := by
  have hb := (call_sound hG M f vs [] _ _ h).2.2 (env0 w.heap) xs w ha.core
  refine hb.mono fun e w' he => ?_
  cases e with
  | returned x =>
    obtain ⟨E', hC, hg, hs⟩ := he
    have := slot_toVal (hC.slot 0 _ x rfl rfl) (y := .bool true) rfl
    exact ⟨by rw [this], still_of hg hs⟩
  | _ => exact he.elim
def truePrim : Prim := fun args objs => match args, objs with
  | [], [] => some (.bool true, [])
  | _, _ => none
theorem truePrim_ok {P : Program} {G : VProg} (hG : GOk P G) {f : FuncId} {M : Nat} (h : isTrue (call G M f [] []) = true) : ∀ args objs r os, truePrim args objs = some (r, os) → EnterOk P f ∧ Behaves P f args objs r os := by
  intro args objs r os hp
  unfold truePrim at hp
  split at hp
  · cases hp
    exact call_sound hG M f [] [] _ _ (of_isTrue h)
  · cases hp
def more (prims : FuncId → Option VDef) (f0 : FuncId) (d : VDef) : FuncId → Option VDef := fun f => if f = f0 then some d else prims f
theorem more_ok {P : Program} {prims : FuncId → Option VDef} {f0 : FuncId} {run : Prim} (h : PrimsOk P prims) (h0 : ∀ args objs r os, run args objs = some (r, os) → EnterOk P f0 ∧ Behaves P f0 args objs r os) : PrimsOk P (more prims f0 (.prim run)) := by
  intro f d hf
  unfold more at hf
  split at hf
  · rename_i e
    subst e
    cases hf
    exact h0
  · exact h f d hf
end Go.Vq
namespace Go.Vq
open Go.ChangeShapes
def isAggD : TypeDesc → Bool
  | .struct _ | .array _ _ => true
  | _ => false
def aggT (P : Program) (t : TypeId) : Bool := match P.underlying t with
  | some d => isAggD d
  | none => false
def consec (P : Program) : List Field → Nat → Nat → Bool
  | [], off, n => off == n
  | f :: fs, off, n => f.offset == off && consec P fs (off + P.cellsOf f.type) n
def argT (P : Program) : Nat → Bool → TypeId → Bool
  | 0, _, _ => false
  | d + 1, sl, t => match P.underlying t with
    | some .bool | some .string => P.cellsOf t == 1
    | some (.int _) => P.cellsOf t == 1
    | some (.slice e) => P.cellsOf t == 1 && P.cellsOf e != 0 && argT P d sl e
    | some (.struct fs) => consec P fs.toList 0 (P.cellsOf t) && fs.toList.all fun f => argT P d sl f.type
    | some (.array n e) => P.cellsOf t == n * P.cellsOf e && argT P d sl e
    | _ => false
inductive HasC (P : Program) : List TypeId → List V → Prop
  | nil : HasC P [] []
  | bool {t : TypeId} {ts : List TypeId} {vs : List V} (b : Bool) (h : P.underlying t = some .bool) (hs : HasC P ts vs) : HasC P (t :: ts) (.bool b :: vs)
  | int {t : TypeId} {ts : List TypeId} {vs : List V} (k : IntKind) (n : Int) (h : P.underlying t = some (.int k)) (hw : (Lit.int k n).wf = true) (hs : HasC P ts vs) : HasC P (t :: ts) (.int k n :: vs)
  | str {t : TypeId} {ts : List TypeId} {vs : List V} (s : List UInt8) (h : P.underlying t = some .string) (hl : s.length ≤ maxLen) (hs : HasC P ts vs) : HasC P (t :: ts) (.str s :: vs)
  | slice {t e : TypeId} {ts : List TypeId} {vs : List V} (es : List V) (h : P.underlying t = some (.slice e)) (hl : es.length ≤ maxLen)
      (hsh : ∀ x ∈ es, (aggT P e = true → ∃ cs, x = .agg cs) ∧ (aggT P e = false → x.leaf = true)) (hes : ∀ x ∈ es, HasC P [e] x.cells) (hs : HasC P ts vs) : HasC P (t :: ts) (.isl 0 (P.cellsOf e) es :: vs)
  | struct {t : TypeId} {ts : List TypeId} {cs vs : List V} (fs : Array Field) (h : P.underlying t = some (.struct fs)) (hc : HasC P (fs.toList.map (·.type)) cs) (hs : HasC P ts vs) : HasC P (t :: ts) (cs ++ vs)
  | array {t : TypeId} {ts : List TypeId} {cs vs : List V} (n : Nat) (e : TypeId) (h : P.underlying t = some (.array n e)) (hc : HasC P (List.replicate n e) cs) (hs : HasC P ts vs) : HasC P (t :: ts) (cs ++ vs)
def HasT (P : Program) (t : TypeId) (v : V) : Prop := (aggT P t = true → ∃ cs, v = .agg cs) ∧ (aggT P t = false → v.leaf = true) ∧ HasC P [t] v.cells
theorem HasC.append {P : Program} {ts us : List TypeId} {vs ws : List V} (h : HasC P ts vs) (h2 : HasC P us ws) : HasC P (ts ++ us) (vs ++ ws) := by
  induction h with
  | nil => exact h2
  | bool b h _ ih => exact .bool b h ih
  | int k n h hw _ ih => exact .int k n h hw ih
  | str s h hl _ ih => exact .str s h hl ih
  | slice es h hl hsh hes _ _ ih => exact .slice es h hl hsh hes ih
  | struct fs h hc _ _ ih => rw [List.cons_append, List.append_assoc]; exact .struct fs h hc ih
  | array n e h hc _ _ ih => rw [List.cons_append, List.append_assoc]; exact .array n e h hc ih
section
variable {P : Program} {t : TypeId} {ts : List TypeId} {vs : List V}
theorem HasC.inv_nil (h : HasC P [] vs) : vs = [] := by cases h; rfl
theorem HasC.inv_int {k : IntKind} (ht : P.underlying t = some (.int k)) (h : HasC P (t :: ts) vs) : ∃ n ws, vs = .int k n :: ws ∧ (Lit.int k n).wf = true ∧ HasC P ts ws := by
  cases h with
  | int k' n h hw hs =>
    rw [ht] at h
    cases h
    exact ⟨n, _, rfl, hw, hs⟩
  | _ => simp_all
theorem HasC.inv_str (ht : P.underlying t = some .string) (h : HasC P (t :: ts) vs) : ∃ s ws, vs = .str s :: ws ∧ s.length ≤ maxLen ∧ HasC P ts ws := by
  cases h with
  | str s h hl hs => exact ⟨s, _, rfl, hl, hs⟩
  | _ => simp_all
theorem HasC.inv_slice {e : TypeId} (ht : P.underlying t = some (.slice e)) (h : HasC P (t :: ts) vs) : ∃ es ws, vs = .isl 0 (P.cellsOf e) es :: ws ∧ es.length ≤ maxLen ∧ (∀ x ∈ es, HasT P e x) ∧ HasC P ts ws := by
  cases h with
  | slice es h hl hsh hes hs =>
    rw [ht] at h
    cases h
    exact ⟨es, _, rfl, hl, fun x hx => ⟨(hsh x hx).1, (hsh x hx).2, hes x hx⟩, hs⟩
  | _ => simp_all
theorem HasC.inv_struct {fs : Array Field} (ht : P.underlying t = some (.struct fs)) (h : HasC P (t :: ts) vs) : ∃ cs ws, vs = cs ++ ws ∧ HasC P (fs.toList.map (·.type)) cs ∧ HasC P ts ws := by
  cases h with
  | struct fs' h hc hs =>
    rw [ht] at h
    cases h
    exact ⟨_, _, rfl, hc, hs⟩
  | _ => simp_all
theorem HasC.inv_array {n : Nat} {e : TypeId} (ht : P.underlying t = some (.array n e)) (h : HasC P (t :: ts) vs) : ∃ cs ws, vs = cs ++ ws ∧ HasC P (List.replicate n e) cs ∧ HasC P ts ws := by
  cases h with
  | array n' e' h hc hs =>
    rw [ht] at h
    cases h
    exact ⟨_, _, rfl, hc, hs⟩
  | _ => simp_all
theorem HasT.leaf {v : V} (ha : aggT P t = false) (h : HasT P t v) : HasC P [t] [v] := by
  have := h.2.2
  rwa [cells_leaf (h.2.1 ha)] at this
theorem HasT.agg {v : V} (ha : aggT P t = true) (h : HasT P t v) : ∃ cs, v = .agg cs ∧ HasC P [t] cs := by
  obtain ⟨cs, rfl⟩ := h.1 ha
  exact ⟨cs, rfl, h.2.2⟩
end
inductive Rels (imm : Nat → Nat → Prop) (H : Array Go.Obj) : List V → List Value → Prop
  | nil : Rels imm H [] []
  | cons {v : V} {x : Value} {vs : List V} {xs : List Value} (hl : v.leaf = true) (h : RelI imm H v x) (hs : Rels imm H vs xs) : Rels imm H (v :: vs) (x :: xs)
section
variable {imm : Nat → Nat → Prop} {H : Array Go.Obj}
theorem Rels.length {vs : List V} {xs : List Value} (h : Rels imm H vs xs) : vs.length = xs.length := by
  induction h with
  | nil => rfl
  | cons _ _ _ ih => simp [ih]
theorem Rels.append {vs ws : List V} {xs ys : List Value} (h : Rels imm H vs xs) (h2 : Rels imm H ws ys) : Rels imm H (vs ++ ws) (xs ++ ys) := by
  induction h with
  | nil => exact h2
  | cons hl h _ ih => exact .cons hl h ih
theorem Rels.get {vs : List V} {xs : List Value} (h : Rels imm H vs xs) : ∀ (j : Nat) (u : V) (z : Value), vs[j]? = some u → xs[j]? = some z → u.leaf = true ∧ RelI imm H u z := by
  induction h with
  | nil => intro j u z h; simp at h
  | cons hl h _ ih =>
    intro j u z hu hz
    cases j with
    | zero => simp at hu hz; subst hu hz; exact ⟨hl, h⟩
    | succ j => exact ih j u z (by simpa using hu) (by simpa using hz)
theorem Rels.all {vs : List V} {xs : List Value} (h : Rels imm H vs xs) : ∀ u ∈ vs, u.leaf = true := by
  induction h with
  | nil => intro u hu; simp at hu
  | cons hl h _ ih => intro u hu; rcases List.mem_cons.1 hu with rfl | hu; exact hl; exact ih u hu
end
section
variable {P : Program} {w : World} {H : Type} {enc : TypeId × Value → H}
theorem fields_rel {imm : Nat → Nat → Prop} {Hp : Array Go.Obj} {cs : List Value} : ∀ (fs : List Field) (off n : Nat), consec P fs off n = true → cs.length = n →
    (∀ f ∈ fs, ∃ vs, HasC P [f.type] vs ∧ Rels imm Hp vs ((cs.drop f.offset).take (P.cellsOf f.type))) → ∃ vs, HasC P (fs.map (·.type)) vs ∧ Rels imm Hp vs (cs.drop off) := by
  intro fs
  induction fs with
  | nil =>
    intro off n hc hl _
    simp [consec] at hc
    refine ⟨[], .nil, ?_⟩
    rw [List.drop_eq_nil_of_le (by omega)]
    exact .nil
  | cons f fs ih =>
    intro off n hc hl hf
    simp [consec] at hc
    obtain ⟨vs, h1, h2⟩ := hf f (by simp)
    obtain ⟨ws, h3, h4⟩ := ih _ _ hc.2 hl fun g hg => hf g (by simp [hg])
    refine ⟨vs ++ ws, h1.append h3, ?_⟩
    rw [hc.1] at h2
    have := h2.append h4
    rwa [← List.drop_drop, List.take_append_drop] at this
theorem elems_rel {imm : Nat → Nat → Prop} {Hp : Array Go.Obj} {cs : List Value} {e : TypeId} : ∀ (n i : Nat), cs.length = (i + n) * P.cellsOf e →
    (∀ j, j < i + n → ∃ vs, HasC P [e] vs ∧ Rels imm Hp vs ((cs.drop (j * P.cellsOf e)).take (P.cellsOf e))) → ∃ vs, HasC P (List.replicate n e) vs ∧ Rels imm Hp vs (cs.drop (i * P.cellsOf e)) := by
  intro n
  induction n with
  | zero =>
    intro i hl _
    refine ⟨[], .nil, ?_⟩
    rw [List.drop_eq_nil_of_le (by simpa using Nat.le_of_eq hl)]
    exact .nil
  | succ n ih =>
    intro i hl hf
    obtain ⟨vs, h1, h2⟩ := hf i (by omega)
    obtain ⟨ws, h3, h4⟩ := ih (i + 1) (by rw [hl]; congr 1; omega) fun j hj => hf j (by omega)
    refine ⟨vs ++ ws, h1.append h3, ?_⟩
    have := h2.append h4
    rwa [Nat.add_mul, Nat.one_mul, ← List.drop_drop, List.take_append_drop] at this
theorem env0_imm {Hp : Array Go.Obj} {b k : Nat} {y : Value} (h : cellAt Hp b k = some y) : (env0 Hp).imm b k := by
  unfold cellAt at h
  split at h
  · rename_i hb
    unfold Env.imm env0
    simp only
    rw [if_pos (lt_of_getElem?' hb)]
    trivial
  · cases h
theorem imm_env0 {Hp : Array Go.Obj} {b k : Nat} (h : b < Hp.size) : (env0 Hp).imm b k := by
  unfold Env.imm env0
  simp only
  rw [if_pos h]
  trivial
theorem trod_rel {base : Nat} {spare : Nat → Bool} {held : Bool} (hspare : ∀ b, spare b = true) : ∀ (n d : Nat) (sl : Bool) (t : TypeId) (cs : List Value) (x : DataW H × List MemPlace), argT P d sl t = true →
    DataW.trod enc P w base spare held n t cs = some x → ∃ vs, HasC P [t] vs ∧ Rels (env0 w.heap).imm w.heap vs cs := by
  intro n
  induction n with
  | zero => intro d sl t cs x _ h; simp [DataW.trod] at h
  | succ n ih =>
    intro d sl t cs x ha h
    cases d with
    | zero => simp [argT] at ha
    | succ d =>
      unfold argT at ha
      split at ha
      · rename_i ht
        obtain ⟨b, rfl, _⟩ := DataW.trod_bool ht h
        exact ⟨_, .bool b ht .nil, .cons rfl (.bool b) .nil⟩
      · rename_i ht
        obtain ⟨s, rfl, _, hs⟩ := DataW.trod_string ht h
        have e : s = ⟨s.data.toList.toArray⟩ := by cases s; rfl
        refine ⟨[.str s.data.toList], .str _ ht (by have h0 : s.data.toList.length = s.size := Array.length_toList; rw [h0]; exact hs) .nil, .cons rfl ?_ .nil⟩
        conv => rhs; rw [e]
        exact .str _
      · rename_i k ht
        obtain ⟨z, rfl, _, hw⟩ := DataW.trod_int ht h
        exact ⟨_, .int k z ht hw .nil, .cons rfl (.int k z) .nil⟩
      · rename_i e ht
        simp only [Bool.and_eq_true, bne_iff_ne, ne_eq] at ha
        obtain ⟨⟨hsz, hne⟩, hae⟩ := ha
        rcases DataW.trod_slice ht h with ⟨rfl, _⟩ | ⟨a, len, cap, elems, rest, m, hm, rfl, _, hb, hl, hcap, hel, hread, hrest, _⟩
        · exact ⟨_, .slice [] ht (Nat.zero_le _) (fun x h => by cases h) (fun x h => by cases h) .nil, .cons rfl (isl_of (Elems.nil _ _ _ _) (Nat.le_refl _) (fun _ => rfl) (fun ad h => by cases h) (fun ad k h => by cases h)) .nil⟩
        · cases hm
          have hspot : cap ≠ 0 → a.spot = none := by
            intro hc0
            have h0 : ∃ y, (w.cells? base (a.add (0 * P.cellsOf e)) (P.cellsOf e)).bind (DataW.trod enc P w base spare held n e) = some y := by
              rcases Nat.eq_zero_or_pos len with h0 | h0
              · obtain ⟨hr1, hr2⟩ := hrest (hspare _)
                have := hr2 0 (by omega)
                obtain ⟨y, hy⟩ := exists_getElem? (l := rest) (i := 0) (by omega)
                rw [hy, show len + 0 = 0 by omega] at this
                exact ⟨_, this⟩
              · have := hread 0 h0
                obtain ⟨y, hy⟩ := exists_getElem? (l := elems) (i := 0) (by omega)
                rw [hy] at this
                exact ⟨_, this⟩
            obtain ⟨y, hy⟩ := h0
            rw [Option.bind_eq_some_iff] at hy
            obtain ⟨cs', h1, _⟩ := hy
            obtain ⟨_, h5, h6⟩ := World.cells?_some h1
            have h7 := h6 0 (by omega)
            obtain ⟨z, hz⟩ := exists_getElem? (l := cs') (i := 0) (by omega)
            rw [hz] at h7
            simp only [Addr.add, Nat.zero_mul, if_true] at h7
            unfold World.cell? at h7
            split at h7
            · split at h7
              · cases h7
              · rename_i hs
                simpa using hs
            · cases h7
          have hone : ∀ i, i < len → ∃ vs cs', HasC P [e] vs ∧ w.cells? base (a.add (i * P.cellsOf e)) (P.cellsOf e) = some cs' ∧ Rels (env0 w.heap).imm w.heap vs cs' := by
            intro i hi
            have := hread i hi
            rw [List.getElem?_eq_getElem (by omega), Option.bind_eq_some_iff] at this
            obtain ⟨cs', h1, h2⟩ := this
            obtain ⟨vs, h3, h4⟩ := ih d sl e cs' _ hae h2
            exact ⟨vs, cs', h3, h1, h4⟩
          let mk : List V → V := fun vs => if aggT P e = true then .agg vs else vs.headD .nil
          have hmk : ∀ vs, HasC P [e] vs → (mk vs).cells = vs ∧ (aggT P e = true → ∃ cs, mk vs = .agg cs) ∧ (aggT P e = false → (mk vs).leaf = true) := by
            intro vs hv
            by_cases hg : aggT P e = true
            · simp only [mk, hg, if_true]
              exact ⟨rfl, fun _ => ⟨_, rfl⟩, fun h => by cases h⟩
            · have hg' : aggT P e = false := by simpa using hg
              simp only [mk, hg', if_neg (by decide : ¬ (false = true))]
              cases hv with
              | bool b _ hs => cases hs; exact ⟨rfl, fun h => (by cases h), fun _ => rfl⟩
              | int _ _ _ _ hs => cases hs; exact ⟨rfl, fun h => (by cases h), fun _ => rfl⟩
              | str _ _ _ hs => cases hs; exact ⟨rfl, fun h => (by cases h), fun _ => rfl⟩
              | slice _ _ _ _ _ hs => cases hs; exact ⟨rfl, fun h => (by cases h), fun _ => rfl⟩
              | struct fs h _ _ => simp [aggT, h, isAggD] at hg'
              | array _ _ h _ _ => simp [aggT, h, isAggD] at hg'
          let es : List V := (List.range len).map fun i => if hi : i < len then mk (Classical.choose (hone i hi)) else .nil
          have hlen : es.length = len := by simp [es]
          have hget : ∀ i u, es[i]? = some u → ∃ vs cs', u = mk vs ∧ HasC P [e] vs ∧ w.cells? base (a.add (i * P.cellsOf e)) (P.cellsOf e) = some cs' ∧ Rels (env0 w.heap).imm w.heap vs cs' := by
            intro i u hu
            have hi : i < len := by have := lt_of_getElem? hu; omega
            obtain ⟨cs', h1⟩ := Classical.choose_spec (hone i hi)
            refine ⟨Classical.choose (hone i hi), cs', ?_, h1⟩
            rw [List.getElem?_eq_getElem (by omega)] at hu
            simp only [es, List.getElem_map, List.getElem_range, dif_pos hi, Option.some.injEq] at hu
            exact hu.symm
          have hmem : ∀ u ∈ es, ∃ vs cs', u = mk vs ∧ HasC P [e] vs ∧ cs'.length = P.cellsOf e ∧ Rels (env0 w.heap).imm w.heap vs cs' := by
            intro u hu
            obtain ⟨i, hi⟩ := List.getElem?_of_mem hu
            obtain ⟨vs, cs', h1, h2, h3, h4⟩ := hget i u hi
            exact ⟨vs, cs', h1, h2, (World.cells?_some h3).2.1, h4⟩
          have hE : Elems (env0 w.heap).imm w.heap (some a) (P.cellsOf e) es := by
            refine ⟨fun u hu => ?_, fun i u j v hi hj => ?_⟩
            · obtain ⟨vs, cs', rfl, h2, h3, h4⟩ := hmem u hu
              unfold elemOk
              rw [(hmk vs h2).1]
              exact ⟨by rw [h4.length, h3], h4.all⟩
            · obtain ⟨vs, cs', rfl, h2, h3, h4⟩ := hget i u hi
              rw [(hmk vs h2).1] at hj
              obtain ⟨_, h5, h6⟩ := World.cells?_some h3
              have hjl := lt_of_getElem? hj
              rw [h4.length, h5] at hjl
              have h7 := h6 j hjl
              obtain ⟨y, hy⟩ := exists_getElem? (l := cs') (i := j) (by omega)
              refine ⟨a, y, rfl, ?_, (h4.get j v y hj hy).2⟩
              have hspot := hspot (by have := lt_of_getElem? hi; omega)
              rw [hy, cell_at (by rw [add_spot hspot]), add_spot hspot] at h7
              rw [← h7]
              congr 1
              simp only
              omega
          refine ⟨_, .slice es ht (by omega) (fun u hu => ?_) (fun u hu => ?_) .nil, .cons rfl ?_ .nil⟩
          · obtain ⟨vs, cs', rfl, h2, _⟩ := hmem u hu
            exact (hmk vs h2).2
          · obtain ⟨vs, cs', rfl, h2, _⟩ := hmem u hu
            rwa [(hmk vs h2).1]
          · have := isl_of (g := 0) (cap := cap) hE (by omega) (fun h => by cases h) (fun ad h => by cases h; exact hspot) (fun ad k h hk => by
              cases h
              have : 0 < P.cellsOf e ∧ 0 < es.length := by
                rcases Nat.eq_zero_or_pos (P.cellsOf e) with h0 | h0
                · rw [h0] at hk; omega
                · rcases Nat.eq_zero_or_pos es.length with h1 | h1
                  · rw [h1] at hk; omega
                  · exact ⟨h0, h1⟩
              obtain ⟨u, hu⟩ := exists_getElem? (l := es) this.2
              obtain ⟨he1, _⟩ := hE.1 u (List.mem_of_getElem? hu)
              obtain ⟨v, hv⟩ := exists_getElem? (l := u.cells) (i := 0) (by omega)
              obtain ⟨ad, y, h1, h2, _⟩ := hE.2 0 u 0 v hu hv
              cases h1
              have := env0_imm h2
              unfold cellAt at h2
              split at h2
              · rename_i hb2
                exact imm_env0 (lt_of_getElem?' hb2)
              · cases h2)
            rwa [hlen] at this
      · rename_i fs ht
        simp only [Bool.and_eq_true, List.all_eq_true] at ha
        obtain ⟨xs, m, hm, _, hlen, hxl, hf⟩ := DataW.trod_struct ht h
        cases hm
        obtain ⟨vs, h1, h2⟩ := fields_rel (imm := (env0 w.heap).imm) (Hp := w.heap) fs.toList 0 _ ha.1 hlen fun f hfm => by
          obtain ⟨i, hi⟩ := List.getElem?_of_mem hfm
          have hi' : fs[i]? = some f := by simpa using hi
          have hlt : i < xs.length := by rw [hxl]; simpa using lt_of_getElem? hi
          have := hf i f hi'
          rw [List.getElem?_eq_getElem hlt] at this
          exact ih d sl f.type _ _ (ha.2 f hfm) this
        refine ⟨vs ++ [], .struct fs ht h1 .nil, ?_⟩
        simpa using h2
      · rename_i k e ht
        simp only [Bool.and_eq_true, beq_iff_eq] at ha
        obtain ⟨xs, m, hm, _, hlen, hxl, hf⟩ := DataW.trod_array ht h
        cases hm
        obtain ⟨vs, h1, h2⟩ := elems_rel (imm := (env0 w.heap).imm) (Hp := w.heap) (cs := cs) (P := P) (e := e) k 0 (by rw [hlen, ha.1, Nat.zero_add]) fun j hj => by
          have := hf j (by omega)
          rw [List.getElem?_eq_getElem (by omega)] at this
          exact ih d sl e _ _ ha.2 this
        refine ⟨vs ++ [], .array k e ht h1 .nil, ?_⟩
        simpa using h2
      · cases ha
end
end Go.Vq
namespace Go.Vq
open Go.ChangeShapes
section
variable {P : Program} {w w' : World} {H : Type} {enc : TypeId × Value → H}
theorem trod_spare {base : Nat} {sp : Nat → Bool} {held : Bool} : ∀ (n d : Nat) (sl : Bool) (t : TypeId) (cs : List Value) (x : DataW H × List MemPlace), argT P d sl t = true →
    DataW.trod enc P w base (fun _ => true) held n t cs = some x → (∀ p ∈ x.2, sp p.block = true) → DataW.trod enc P w base sp held n t cs = some x := by
  intro n
  induction n with
  | zero => intro d sl t cs x _ h; simp [DataW.trod] at h
  | succ n ih =>
    intro d sl t cs x ha h hs
    cases d with
    | zero => simp [argT] at ha
    | succ d =>
      unfold argT at ha
      split at ha
      · rename_i ht
        obtain ⟨b, rfl, rfl⟩ := DataW.trod_bool ht h
        simp [DataW.trod, ht]
      · rename_i ht
        obtain ⟨s, rfl, rfl, hl⟩ := DataW.trod_string ht h
        rw [DataW.trod_step]
        unfold DataW.trodStep
        simp only [ht, if_pos hl]
      · rename_i k ht
        obtain ⟨z, rfl, rfl, hw⟩ := DataW.trod_int ht h
        simp [DataW.trod, ht, hw]
      · rename_i e ht
        simp only [Bool.and_eq_true, bne_iff_ne, ne_eq] at ha
        obtain ⟨⟨hsz, hne⟩, hae⟩ := ha
        rcases DataW.trod_slice ht h with ⟨rfl, rfl⟩ | ⟨a, len, cap, _, _, _, _, rfl, _⟩
        · simp [DataW.trod, ht]
        · rw [DataW.trod_step] at h ⊢
          unfold DataW.trodStep at h ⊢
          simp only [ht] at h ⊢
          split at h
          · rename_i hc
            rw [if_pos hc]
            simp only [Option.map_eq_some_iff, Option.bind_eq_some_iff, if_true] at h ⊢
            obtain ⟨elems, hel, rest, hrest, rfl⟩ := h
            have one : ∀ (i : Nat) (y : DataW H × List MemPlace), y ∈ elems ++ rest → ((w.cells? base (a.add (i * P.cellsOf e)) (P.cellsOf e)).bind (DataW.trod enc P w base (fun _ => true) held n e)) = some y →
                ((w.cells? base (a.add (i * P.cellsOf e)) (P.cellsOf e)).bind (DataW.trod enc P w base sp held n e)) = some y := by
              intro i y hy hv
              simp only [Option.bind_eq_some_iff] at hv ⊢
              obtain ⟨cs', hc', hy'⟩ := hv
              refine ⟨cs', hc', ih d sl e _ _ hae hy' fun p hp => hs p ?_⟩
              simp only [List.mem_append, List.mem_flatMap]
              right
              exact ⟨y, by simpa using hy, hp⟩
            refine ⟨elems, mapM_carry hel (fun i y hi hy => one i y (by simp [hy])), rest, ?_, rfl⟩
            have hlen : elems.length = len := by simpa using mapM_some_length hel
            have hrl : rest.length = cap - len := by simpa using mapM_some_length hrest
            split
            · exact mapM_carry hrest (fun j y hj hy => one (len + j) y (by simp [hy]))
            · rename_i hsp
              have : (elems.length + rest.length) * P.cellsOf e = 0 := by
                rcases Nat.eq_zero_or_pos ((elems.length + rest.length) * P.cellsOf e) with h0 | h0
                · exact h0
                · exfalso
                  have := hs (.cell a.block (a.off + 0)) (by
                    simp only [List.mem_append]
                    left
                    exact MemPlace.mem_row.2 ⟨0, h0, rfl⟩)
                  exact hsp this
              have h0 : elems.length + rest.length = 0 := by
                rcases Nat.mul_eq_zero.1 this with h0 | h0
                · exact h0
                · exact absurd h0 hne
              have : rest = [] := List.eq_nil_of_length_eq_zero (by omega)
              rw [this]
          · cases h
      · rename_i fs ht
        simp only [Bool.and_eq_true, List.all_eq_true] at ha
        rw [DataW.trod_step] at h ⊢
        unfold DataW.trodStep at h ⊢
        simp only [ht] at h ⊢
        split at h
        · rename_i hc
          rw [if_pos hc]
          simp only [Option.map_eq_some_iff] at h ⊢
          obtain ⟨xs, hx, rfl⟩ := h
          exact ⟨xs, mapM_carry hx (fun f y hf hy hv => ih d sl f.type _ _ (ha.2 f hf) hv fun p hp => hs p (List.mem_flatMap.2 ⟨y, hy, hp⟩)), rfl⟩
        · cases h
      · rename_i k e ht
        simp only [Bool.and_eq_true, beq_iff_eq] at ha
        rw [DataW.trod_step] at h ⊢
        unfold DataW.trodStep at h ⊢
        simp only [ht] at h ⊢
        split at h
        · rename_i hc
          rw [if_pos hc]
          simp only [Option.map_eq_some_iff] at h ⊢
          obtain ⟨xs, hx, rfl⟩ := h
          exact ⟨xs, mapM_carry hx (fun f y _ hy hv => ih d sl _ _ _ ha.2 hv fun p hp => hs p (List.mem_flatMap.2 ⟨y, hy, hp⟩)), rfl⟩
        · cases h
      · cases ha
theorem Still.sameAt {p : MemPlace} (h : Still w w') (hp : p.block < w.heap.size) : w.sameAt w' p := by
  have hk := h.kept.2.2 p.block hp
  cases p with
  | cell b off =>
    simp only [MemPlace.block] at hp hk
    simp only [World.sameAt, World.cell?]
    cases h1 : w.heap[b]? with
    | none => rw [Array.getElem?_eq_getElem hp] at h1; cases h1
    | some o =>
      rw [h1] at hk
      cases h2 : w'.heap[b]? with
      | none => rw [h2] at hk; cases o <;> simp_all
      | some o' =>
        rw [h2] at hk
        cases o <;> cases o' <;> simp_all
  | map b =>
    simp only [MemPlace.block] at hp hk
    simp only [World.sameAt]
    cases h1 : w.heap[b]? with
    | none => rw [Array.getElem?_eq_getElem hp] at h1; cases h1
    | some o =>
      rw [h1] at hk
      cases h2 : w'.heap[b]? with
      | none => rw [h2] at hk; cases o <;> simp_all
      | some o' =>
        rw [h2] at hk
        cases o <;> cases o' <;> simp_all
        · obtain ⟨rfl, rfl, hsz, hc⟩ := hk
          congr 1
          exact Array.ext_getElem? hc
theorem trodAll_still {held : Bool} {sp : Nat → Bool} (hS : Still w w') : ∀ {ts : List TypeId} {vs : List Value} {ds : List (DataW H)} {ps : List MemPlace}, (∀ t ∈ ts, ∃ d, argT P d true t = true) →
    DataW.TrodAll enc P w 0 (fun _ => true) held ts vs ds ps → (∀ p ∈ ps, p.block < w.heap.size) → (∀ p ∈ ps, sp p.block = true) → DataW.TrodAll enc P w' 0 sp held ts vs ds ps
  | [], _, _, _, _, h, _, _ => by
    obtain ⟨rfl, rfl, rfl⟩ := trodAll_nil h
    exact trodAll_mk0
  | t :: ts, _, _, _, hts, h, hlt, hsp => by
    obtain ⟨v, vs1, d, ds1, a, c, rfl, rfl, rfl, ⟨n, h1⟩, h2⟩ := trodAll_cons h
    obtain ⟨dd, hd⟩ := hts t (by simp)
    refine trodAll_cons_mk ⟨n, trod_spare n dd true t _ _ hd (DataW.trod_carry n t _ _ h1 fun p hp => hS.sameAt (hlt p (by simp; exact .inl hp))) fun p hp => hsp p (by simp; exact .inl hp)⟩ ?_
    exact trodAll_still hS (fun t ht => hts t (by simp [ht])) h2 (fun p hp => hlt p (by simp [hp])) (fun p hp => hsp p (by simp [hp]))
theorem cell_spot {r : Reach} {base : Nat} {u : TypeId} {a : Addr} {l c : Nat} (h : Cell.okWide P w r base u (.slice (some a) l c)) : a.spot = none := by
  unfold Cell.okWide at h
  split at h <;> simp_all [Cell.ok]
  split at h <;> simp_all
  exact h.2.2.2.1
theorem okWide_agg {r : Reach} {base : Nat} {t : TypeId} {v : Value} (h : Value.okWide P w r base t v) (ha : aggT P t = true) : ∃ cs, v = .agg cs ∧ ∀ a l c, Value.slice (some a) l c ∈ cs.toList → a.spot = none := by
  have h' : ∃ cs, v = .agg cs ∧ cs.size = P.cellsOf t ∧ Row.okWide P w r base t cs := by
    unfold aggT at ha
    unfold Value.okWide at h
    cases hu : P.underlying t with
    | none => rw [hu] at ha; cases ha
    | some dsc =>
      rw [hu] at ha h
      cases dsc <;> first | exact h | cases ha
  obtain ⟨cs, rfl, _, ts, _, _, hc⟩ := h'
  refine ⟨cs, rfl, fun a l c hm => ?_⟩
  obtain ⟨i, hi, e⟩ := Array.mem_iff_getElem.1 (Array.mem_toList_iff.1 hm)
  obtain ⟨u, _, hu⟩ := hc i (.slice (some a) l c) (by rw [Array.getElem?_eq_getElem hi, e])
  exact cell_spot hu
theorem okWide_leaf {r : Reach} {base d : Nat} {sl : Bool} {t : TypeId} {v : Value} (h : Value.okWide P w r base t v) (ha : aggT P t = false) (ht : argT P d sl t = true) : aggX v = false ∧ ∀ a l c, v = .slice (some a) l c → a.spot = none := by
  have hc : Cell.okWide P w r base t v := by
    unfold aggT at ha
    unfold Value.okWide at h
    split at h <;> simp_all [isAggD]
  refine ⟨?_, fun a l c e => by subst e; exact cell_spot hc⟩
  cases v with
  | agg cs =>
    exfalso
    cases hu : P.underlying t with
    | none => simp_all [Cell.okWide, Cell.ok]
    | some dsc => cases dsc <;> simp_all [Cell.okWide, Cell.ok]
  | _ => rfl
inductive HasTs (P : Program) : List TypeId → List V → Prop
  | nil : HasTs P [] []
  | cons {t : TypeId} {v : V} {ts : List TypeId} {vs : List V} (h : HasT P t v) (hs : HasTs P ts vs) : HasTs P (t :: ts) (v :: vs)
theorem args_rel {held : Bool} {r : Reach} {base : Nat} : ∀ {ts : List TypeId} {vs : List Value} {ds : List (DataW H)} {ps : List MemPlace}, (∀ t ∈ ts, ∃ d, argT P d true t = true) →
    DataW.TrodAll enc P w 0 (fun _ => true) held ts vs ds ps → (∀ (j : Nat) (t : TypeId) (v : Value), ts[j]? = some t → vs[j]? = some v → Value.okWide P w r base t v) →
    ∃ us : List V, Args w us vs ∧ HasTs P ts us
  | [], _, _, _, _, h, _ => by
    obtain ⟨rfl, rfl, rfl⟩ := trodAll_nil h
    exact ⟨[], .nil w, .nil⟩
  | t :: ts, _, _, _, hts, h, hok => by
    obtain ⟨v, vs1, d, ds1, a, c, rfl, rfl, rfl, ⟨n, h1⟩, h2⟩ := trodAll_cons h
    obtain ⟨dd, hd⟩ := hts t (by simp)
    obtain ⟨us, h3, h4⟩ := args_rel (fun t ht => hts t (by simp [ht])) h2 (fun j t v ht hv => hok (j + 1) t v (by simpa using ht) (by simpa using hv))
    have h0 := hok 0 t v rfl rfl
    cases hg : aggT P t with
    | true =>
      obtain ⟨cs, rfl, hsp⟩ := okWide_agg h0 hg
      obtain ⟨ws, h5, h6⟩ := trod_rel (fun _ => rfl) n dd true t _ _ hd h1
      refine ⟨.agg ws :: us, .cons ⟨⟨cs, rfl, h6.length⟩, fun j u z hu hz => h6.get j u z hu hz⟩ h3, .cons ⟨fun _ => ⟨_, rfl⟩, fun h => absurd (hg.symm.trans h) (by decide), h5⟩ h4⟩
    | false =>
      obtain ⟨hx, hsp⟩ := okWide_leaf h0 hg hd
      have hcells : v.cells.toList = [v] := by cases v <;> first | rfl | cases hx
      rw [hcells] at h1
      obtain ⟨ws, h5, h6⟩ := trod_rel (fun _ => rfl) n dd true t _ _ hd h1
      have hl := h6.length
      cases h6 with
      | cons hl1 hr hn =>
        rename_i u us'
        cases hn
        refine ⟨u :: us, .cons (relE_leaf hl1 hr) h3, .cons ⟨fun h => (by rw [hg] at h; cases h), fun _ => hl1, ?_⟩ h4⟩
        rwa [cells_leaf hl1]
end
theorem trodAll_len {H : Type} {enc : TypeId × Value → H} {P : Program} {w : World} {base : Nat} {sp : Nat → Bool} {held : Bool} : ∀ {ts : List TypeId} {vs : List Value} {ds : List (DataW H)} {ps : List MemPlace}, DataW.TrodAll enc P w base sp held ts vs ds ps → ds.length = ts.length
  | [], _, _, _, h => by
    obtain ⟨rfl, rfl, rfl⟩ := trodAll_nil h
    rfl
  | t :: ts, _, _, _, h => by
    obtain ⟨v, vs1, d, ds1, a, c, rfl, rfl, rfl, _, h2⟩ := trodAll_cons h
    simp [trodAll_len h2]
open Go.WideShapes Go.ChangeShapes Go.RowKit in
theorem post_args {H : Type} {enc : TypeId × Value → H} {P : Program} {f : Func} {s : ChangeSpec} {apart fresh handsOn again : Bool} {W W' : World} {args : Array Value} {ds gs : List (DataW H)} {before : List MemPlace} {tb : TypeId} (d : Nat)
    (hW : DataW.Whole enc P f.params.toList s.vars apart W args.toList ds gs before) (hS : Still W W') (hty : (f.params.toList.all fun t => argT P d true t) = true)
    (hv : s.vars = []) (hf : ∀ l : List (DataW H), l.length = f.params.size → s.fn H l = ⟨[.lit (.bool true)], l, []⟩) (hr : f.resultTypes = #[tb]) (hb : P.underlying tb = some .bool) :
    s.post enc P f apart fresh handsOn again W args (.bool true) W' := by
  have hlt := hW.lt
  obtain ⟨pa, pv, hA, hV, rfl, hz, hn⟩ := id hW
  rw [hv] at hV
  obtain ⟨rfl, rfl⟩ := trodVars_none hV
  simp only [List.append_nil] at hW hlt
  have hty' : ∀ t ∈ f.params.toList, ∃ d, argT P d true t = true := fun t ht => ⟨d, List.all_eq_true.1 hty t ht⟩
  have hdl : (ds ++ []).length = f.params.size := by rw [List.append_nil, trodAll_len hA]; simp
  refine post_still (pa := pa) (pv := []) hW (fun b sp hd => ?_) (fun sp hsp => ?_) (fun sp _ => ?_) (by simp) hS (ok_one hr rfl (okWide_bool_mk hb _))
  · rw [hf _ hdl, hr]
    exact trodAll_cons_mk (p' := []) (shut_bool hb _) trodAll_mk0
  · rw [hf _ hdl]
    simp only [List.append_nil]
    exact trodAll_still hS hty' hA hlt hsp
  · rw [hf _ hdl, hv]
    show DataW.TrodVars enc P W' sp [] [] []
    rfl
theorem mapx {α : Type} {f : α → V} {p : α → Prop} : ∀ {es : List V}, (∀ x ∈ es, ∃ a, x = f a ∧ p a) → ∃ l : List α, es = l.map f ∧ ∀ a ∈ l, p a
  | [], _ => ⟨[], rfl, fun a h => by simp at h⟩
  | x :: es, h => by
    obtain ⟨a, rfl, ha⟩ := h x (by simp)
    obtain ⟨l, rfl, hl⟩ := mapx (es := es) fun y hy => h y (by simp [hy])
    exact ⟨a :: l, rfl, fun b hb => by rcases List.mem_cons.1 hb with rfl | hb; exact ha; exact hl b hb⟩
section
variable {P : Program} {t e : TypeId} {v : V}
theorem HasTs.inv {ts : List TypeId} {vs : List V} (h : HasTs P (t :: ts) vs) : ∃ v us, vs = v :: us ∧ HasT P t v ∧ HasTs P ts us := by
  cases h with
  | cons h hs => exact ⟨_, _, rfl, h, hs⟩
theorem HasTs.inv_nil {vs : List V} (h : HasTs P [] vs) : vs = [] := by cases h; rfl
theorem aggT_of {d : TypeDesc} (h : P.underlying t = some d) : aggT P t = isAggD d := by simp [aggT, h]
theorem HasT.int {k : IntKind} (ht : P.underlying t = some (.int k)) (h : HasT P t v) : ∃ n, v = .int k n ∧ (Lit.int k n).wf = true := by
  obtain ⟨n, ws, h1, h2, h3⟩ := (h.leaf (by rw [aggT_of ht]; rfl)).inv_int ht
  cases h1
  exact ⟨n, rfl, h2⟩
theorem HasT.str (ht : P.underlying t = some .string) (h : HasT P t v) : ∃ s, v = .str s ∧ s.length ≤ maxLen := by
  obtain ⟨n, ws, h1, h2, h3⟩ := (h.leaf (by rw [aggT_of ht]; rfl)).inv_str ht
  cases h1
  exact ⟨n, rfl, h2⟩
theorem HasT.slice (ht : P.underlying t = some (.slice e)) (h : HasT P t v) : ∃ es, v = .isl 0 (P.cellsOf e) es ∧ es.length ≤ maxLen ∧ ∀ x ∈ es, HasT P e x := by
  obtain ⟨n, ws, h1, h2, h3, h4⟩ := (h.leaf (by rw [aggT_of ht]; rfl)).inv_slice ht
  cases h1
  exact ⟨n, rfl, h2, h3⟩
end
end Go.Vq
