/- A machine of values and its tie to the model: part 7 of 7 (no law of Go is stated here). -/
import Derived.Test.YtigbpkocmklbpaaF6
import Derived.Scope
import Derived.RowKit3
import Derived.ProofKit
import Derived.OpenShut
/- Regions (no law of Go is stated here). -/
namespace Go.Vq
/-- An operation and what it was read as. -/
structure VOperOk (P : Program) (all : Array Oper) (done : List Nat) (o : Oper) (v : VOper) : Prop where
  op : ∃ site v0, cOp P o site = some v0 ∧ v0.strip = v.op.strip
  dst : v.dst = o.dst
  guard : (o.guard = none ∧ v.guard = none) ∨ ∃ j want s, o.guard = some (j, want) ∧ (all[j]?).bind (·.dst) = some s ∧ v.guard = some (s, want)
  before : v.before = vbef done o
  edges : ∀ e ∈ o.after.toList, Region.binds .any e = true → e.on < done.length
theorem cOps_ok {P : Program} {all : Array Oper} : ∀ {os : List Oper} {vs : List VOper} {site m : Nat} {done : List Nat}, cOps P all site done os = some (m, vs.map VOper.strip) →
    vs.length = os.length ∧ ∀ (i : Nat) (o : Oper) (v : VOper), os[i]? = some o → vs[i]? = some v → VOperOk P all (done ++ (vs.take i).map (·.before)) o v
  | [], vs, site, m, done, h => by
    simp only [cOps, Option.some.injEq, Prod.mk.injEq] at h
    have : vs = [] := by cases vs <;> simp at h ⊢
    subst this
    exact ⟨rfl, fun i o v h => by simp at h⟩
  | o :: os, vs, site, m, done, h => by
    simp only [cOps, Option.bind_eq_bind, Option.pure_def] at h
    obtain ⟨op, hop, h⟩ := Option.bind_eq_some_iff.1 h
    obtain ⟨g, hg, h⟩ := Option.bind_eq_some_iff.1 h
    split at h
    · cases h
    · rename_i hedge
      obtain ⟨⟨m', rest⟩, hrest, h⟩ := Option.bind_eq_some_iff.1 h
      simp only [Option.some.injEq, Prod.mk.injEq] at h
      obtain ⟨h1, h2⟩ := h
      cases vs with
      | nil => simp at h2
      | cons v vs =>
        simp only [List.map_cons, List.cons.injEq] at h2
        obtain ⟨hv, hvs⟩ := h2
        rw [hvs] at hrest
        have hb : v.before = vbef done o := by have := congrArg VOper.before hv; simpa [VOper.strip] using this.symm
        obtain ⟨i1, i2⟩ := cOps_ok hrest
        refine ⟨by simp [i1], fun i o' v' ho hv' => ?_⟩
        cases i with
        | zero =>
          simp at ho hv'; subst ho hv'
          refine ⟨⟨site, op, hop, ?_⟩, ?_, ?_, by simpa using hb, ?_⟩
          · have := congrArg VOper.op hv; simp only [VOper.strip] at this; exact this
          · have := congrArg VOper.dst hv; simp only [VOper.strip] at this; exact this.symm
          · have hvg : v.guard = g := by have := congrArg VOper.guard hv; simp only [VOper.strip] at this; exact this.symm
            rw [hvg]
            unfold cGuard at hg
            split at hg
            · rename_i hog; cases hg; exact .inl ⟨hog, rfl⟩
            · rename_i j want hog
              obtain ⟨s, hs, rfl⟩ := Option.map_eq_some_iff.1 hg
              exact .inr ⟨j, want, s, hog, hs, rfl⟩
          · intro e he hb
            simp only [List.any_eq_true, Bool.and_eq_true, decide_eq_true_eq, not_exists, not_and, Nat.not_le] at hedge
            simpa using hedge e he hb
        | succ i =>
          have := i2 i o' v' (by simpa using ho) (by simpa using hv')
          rw [← hb, List.append_assoc] at this
          simpa using this
section
variable {P : Program} {n base : Nat} {E E' E2 : Env} {σ σ' : St} {hs : List V} {ts xs : List Value} {H H' H2 : Array Go.Obj}
variable {callee : Callee} {o : Oper} {a : Act} {w : World} {next : Act → World → Prop} {Q : Exit → Act → World → Prop}

theorem skip_sound {d : Option Nat} (hC : CoreS n E σ [] a.tmps.toList [] w.heap) (hr : (skipP d).run σ = some σ') (K : NextOk n base E σ' a w next) : next (a.put d undef) w := by
  have hC1 : CoreS n E σ ([] ++ [.tup []]) a.tmps.toList ([] ++ [undef]) w.heap :=
    hC.push (by simp [V.leaves]) ⟨⟨#[], rfl, rfl, fun i v x h => by simp at h⟩, fun i u y h => by simp [V.leaves] at h⟩ (by intro r hr; simp [V.refs, V.leaves] at hr)
  obtain ⟨E2, σ2, h1, h2, _, h3⟩ := putO_sound (base := base) (hs := []) (xs := []) hC1 hr
  cases h3
  exact K E2 _ w (by rw [put_toList]; exact h1) h2 (WSame.refl _) (put_defers _ _ _)
theorem voper_sound {all : Array Oper} {done : List Nat} {v : VOper} (hcallee : CalleeOk P callee) (hv : VOperOk P all done o v) (hC : CoreS n E σ [] a.tmps.toList [] w.heap)
    (hr : (v.prog callee base).run σ = some σ') (K : NextOk n base E σ' a w next) :
    (Region.wanted o (yielded all a.tmps) = true ∧ o.wp P a w next Q) ∨ (Region.wanted o (yielded all a.tmps) = false ∧ next (a.put o.dst undef) w) := by
  obtain ⟨site, v0, hop, hst⟩ := hv.op
  have hrun : (opProg callee base v.dst v.op).run σ = some σ' → o.wp P a w next Q := by
    intro h
    rw [hv.dst] at h
    exact op_sound hcallee hop hst hC h K
  rcases hv.guard with ⟨g1, g2⟩ | ⟨j, want, s, g1, g2, g3⟩
  · left
    refine ⟨by simp [Region.wanted, g1], hrun ?_⟩
    simp only [VOper.prog, g2] at hr; exact hr
  · simp only [VOper.prog, g3, Prog.run] at hr
    have hn : s < n := by
      rcases Nat.lt_or_ge s n with h | h
      · exact h
      · rw [hC.slotBig (by omega)] at hr; cases hr
    have hS := hC.slotRel hn
    obtain ⟨x, hx⟩ := exists_getElem? (l := a.tmps.toList) (i := s) (hC.tl ▸ hn)
    rw [getD_of_getElem? hx] at hS
    have hx' : a.tmps[s]? = some x := by simpa using hx
    split at hr
    · rename_i b hb
      rw [hb] at hS
      have e := slot_toVal (y := .bool b) hS rfl
      subst e
      have hy : yielded all a.tmps j = some b := by simp only [yielded, g2, Option.bind_some, hx']
      rw [Prog.run_ite] at hr
      split at hr
      · rename_i hbw
        left
        refine ⟨?_, hrun hr⟩
        simp only [Region.wanted, g1, hy]
        simp only [beq_iff_eq] at hbw
        simp [hbw]
      · rename_i hbw
        right
        refine ⟨?_, ?_⟩
        · simp only [Region.wanted, g1, hy]
          simp only [beq_iff_eq] at hbw
          simp [hbw]
        · rw [hv.dst] at hr
          exact skip_sound hC hr K
    · rename_i hb
      rw [hb] at hS
      obtain ⟨xs, rfl, _⟩ := hS.1
      have hy : yielded all a.tmps j = none := by simp only [yielded, g2, Option.bind_some, hx']
      right
      refine ⟨by simp only [Region.wanted, g1, hy]; simp, ?_⟩
      rw [hv.dst] at hr
      exact skip_sound hC hr K
    · cases hr
/-- Operations by their places. -/
def runAt (callee : Callee) (base : Nat) (vs : List VOper) : List Nat → St → Option St
  | [], σ => some σ
  | i :: L, σ => match vs[i]? with
    | some v => match (v.prog callee base).run σ with
      | some σ1 => runAt callee base vs L σ1
      | none => none
    | none => none
theorem wpOps_sound {ops : Array Oper} {vs : List VOper} {D : Nat → List Nat} (hcallee : CalleeOk P callee) (hlen : vs.length = ops.size) (hok : ∀ (i : Nat) (o : Oper) (v : VOper), ops[i]? = some o → vs[i]? = some v → VOperOk P ops (D i) o v) :
    ∀ (L : List Nat) {E : Env} {σ : St} {a : Act} {w : World}, runAt callee base vs L σ = some σ' → CoreS n E σ [] a.tmps.toList [] w.heap → NextOk n base E σ' a w (Q .normal) → wpOps P ops Q L a w
  | [], E, σ, a, w, hr, hC, K => by
    cases hr
    exact K E a w hC (Grow.refl _ _ _) (WSame.refl _) rfl
  | i :: L, E, σ, a, w, hr, hC, K => by
    simp only [runAt] at hr
    split at hr
    · rename_i v hv
      split at hr
      · rename_i σ1 h1
        have hi := lt_of_getElem? hv
        have ho : ops[i]? = some ops[i] := Array.getElem?_eq_getElem (hlen ▸ hi)
        simp only [wpOps, ho]
        have := voper_sound (Q := Q) (next := wpOps P ops Q L) (base := base) hcallee (hok i _ v ho hv) hC h1 (fun E' a' w' h2 h3 h4 h5 => wpOps_sound hcallee hlen hok L hr h2 fun E'' a'' w'' k1 k2 k3 k4 => K E'' a'' w'' k1 (h3.trans k2) (h4.trans k3) (k4.trans h5))
        rcases this with ⟨h2, h3⟩ | ⟨h2, h3⟩
        · rw [if_pos h2]; exact .inl h3
        · rw [if_neg (by rw [h2]; simp)]; exact h3
      · cases hr
    · cases hr
theorem runOps_at : ∀ (vs pre : List VOper) (σ : St), runOps callee base vs σ = runAt callee base (pre ++ vs) (List.range' pre.length vs.length) σ
  | [], pre, σ => rfl
  | v :: vs, pre, σ => by
    simp only [runOps, List.length_cons, List.range'_succ, runAt]
    rw [List.getElem?_append_right (Nat.le_refl _), Nat.sub_self]
    simp only [List.getElem?_cons_zero]
    cases h : (v.prog callee base).run σ with
    | none => rfl
    | some σ1 =>
      have := runOps_at vs (pre ++ [v]) σ1
      simp only
      rw [this]; simp

/-! ### orders that are drawn -/
theorem testBit_two_pow' (i j : Nat) : (2 ^ i).testBit j = decide (i = j) := Nat.testBit_two_pow
theorem vbef_bit {done : List Nat} {o : Oper} {j : Nat} (h : (vbef done o).testBit j = true) : ∃ e ∈ o.after.toList, Region.binds .any e = true ∧ (j = e.on ∨ (done.getD e.on 0).testBit j = true) := by
  unfold vbef at h
  have key : ∀ (l : List Edge) (s : Nat), (l.foldl (fun s e => if Region.binds .any e then s ||| 2 ^ e.on ||| done.getD e.on 0 else s) s).testBit j = true → s.testBit j = true ∨ ∃ e ∈ l, Region.binds .any e = true ∧ (j = e.on ∨ (done.getD e.on 0).testBit j = true) := by
    intro l
    induction l with
    | nil => intro s h; exact .inl h
    | cons e l ih =>
      intro s h
      rcases ih _ h with h1 | ⟨e', h1, h2⟩
      · dsimp only at h1
        split at h1
        · rename_i hb
          simp only [Nat.testBit_or, testBit_two_pow', Bool.or_eq_true, decide_eq_true_eq] at h1
          rcases h1 with (h1 | h1) | h1
          · exact .inl h1
          · exact .inr ⟨e, List.mem_cons_self .., hb, .inl h1.symm⟩
          · exact .inr ⟨e, List.mem_cons_self .., hb, .inr h1⟩
        · exact .inl h1
      · exact .inr ⟨e', List.mem_cons_of_mem _ h1, h2⟩
  rcases key _ _ h with h | h
  · simp at h
  · exact h
theorem binds_any {m : Region.Mode} {e : Edge} (h : Region.binds .any e = true) : Region.binds m e = true := by
  unfold Region.binds at *
  cases hg : e.ground <;> simp only [hg] at h ⊢ <;> cases h
theorem exists_least {p : Nat → Bool} {i : Nat} (h : p i = true) : ∃ k, k ≤ i ∧ p k = true ∧ ∀ j, j < k → p j = false := by
  induction i using Nat.strongRecOn with
  | _ i ih =>
    by_cases hj : ∃ j, j < i ∧ p j = true
    · obtain ⟨j, h1, h2⟩ := hj
      obtain ⟨k, k1, k2, k3⟩ := ih j h1 h2
      exact ⟨k, by omega, k2, k3⟩
    · refine ⟨i, Nat.le_refl _, h, fun j hlt => ?_⟩
      cases hp : p j with
      | false => rfl
      | true => exact absurd ⟨j, hlt, hp⟩ hj
theorem range_split {n i : Nat} (h : i < n) : List.range n = List.range i ++ i :: List.range' (i + 1) (n - i - 1) := by
  obtain ⟨k, rfl⟩ : ∃ k, n = i + (k + 1) := ⟨n - i - 1, by omega⟩
  rw [show i + (k + 1) - i - 1 = k by omega, List.range_eq_range', List.range_eq_range']
  have := List.range'_append (s := 0) (m := i) (n := k + 1) (step := 1)
  rw [← this, List.range'_succ]
  simp
end
end Go.Vq
/- Regions whose order is drawn (no law of Go is stated here). -/
namespace Go.Vq
section
variable {P : Program} {n base : Nat} {E E' E2 : Env} {σ σ' : St} {hs : List V} {ts xs : List Value} {H H' H2 : Array Go.Obj}
variable {callee : Callee} {o : Oper} {a : Act} {w : World} {next : Act → World → Prop} {Q : Exit → Act → World → Prop}

theorem go_acc {m : Region.Mode} {ops : Array Oper} : ∀ (fuel t : Nat) (listed : Array Bool) (acc : List Nat), Region.linearise.go m ops fuel t listed acc = acc.reverse ++ Region.linearise.go m ops fuel t listed []
  | 0, t, listed, acc => by simp [Region.linearise.go]
  | fuel + 1, t, listed, acc => by
    simp only [Region.linearise.go]
    split
    · rename_i i _
      rw [go_acc fuel _ _ (i :: acc), go_acc fuel _ _ [i]]
      simp
    · simp
/-- What is not run yet. -/
def rem (m : Nat) (listed : Array Bool) : List Nat := (List.range m).filter fun i => !listed.getD i true
theorem getD_set {listed : Array Bool} {i j : Nat} (h : i < listed.size) : (listed.setIfInBounds i true).getD j true = if j = i then true else listed.getD j true := by
  simp only [Array.getD_eq_getD_getElem?]
  by_cases e : j = i
  · subst e; rw [if_pos rfl, Array.getElem?_setIfInBounds_self_of_lt h]; rfl
  · rw [if_neg e, Array.getElem?_setIfInBounds_ne (fun h => e h.symm)]
theorem filter_same {α : Type} {p q : α → Bool} : ∀ {l : List α}, (∀ x ∈ l, p x = q x) → l.filter p = l.filter q
  | [], _ => rfl
  | x :: l, h => by
    have h1 := h x (by simp)
    have h2 := filter_same (p := p) (q := q) (l := l) fun y hy => h y (List.mem_cons_of_mem _ hy)
    simp only [List.filter_cons, h1, h2]
theorem rem_split {m i : Nat} {listed : Array Bool} (hs : listed.size = m) (hi : i < m) (hl : listed.getD i true = false) :
    ∃ L1 L2, rem m listed = L1 ++ i :: L2 ∧ rem m (listed.setIfInBounds i true) = L1 ++ L2 ∧ ∀ j ∈ L1, j < i ∧ listed.getD j true = false := by
  refine ⟨(List.range i).filter fun j => !listed.getD j true, (List.range' (i + 1) (m - i - 1)).filter fun j => !listed.getD j true, ?_, ?_, fun j hj => ?_⟩
  · unfold rem
    rw [range_split hi, List.filter_append, List.filter_cons, hl]
    simp
  · unfold rem
    rw [range_split hi, List.filter_append, List.filter_cons, getD_set (hs ▸ hi), if_pos rfl]
    simp only [Bool.not_true, Bool.false_eq_true, if_false]
    congr 1
    · refine filter_same fun j hj => ?_
      rw [getD_set (hs ▸ hi), if_neg (by have := List.mem_range.1 hj; omega)]
    · refine filter_same fun j hj => ?_
      rw [getD_set (hs ▸ hi), if_neg (by have := List.mem_range'.1 hj; obtain ⟨k, _, rfl⟩ := this; omega)]
  · obtain ⟨h1, h2⟩ := List.mem_filter.1 hj
    exact ⟨List.mem_range.1 h1, by simpa using h2⟩
/-- Whatever the order. -/
theorem go_run {ops : Array Oper} {vs : List VOper} {fs : List (List Loc × List Loc)} {m : Region.Mode} {rank : Nat → Nat} (hrank : ∀ (i : Nat) (o : Oper), ops[i]? = some o → ∀ e ∈ o.after.toList, Region.binds m e = true → e.on < ops.size ∧ rank e.on < rank i) (hlen : vs.length = ops.size) (hok : ∀ (i : Nat) (o : Oper) (v : VOper), ops[i]? = some o → vs[i]? = some v → VOperOk P ops ((vs.take i).map (·.before)) o v)
    (hf : fs.length = vs.length) (hpair : ∀ (l : Nat) (v : VOper) (f : List Loc × List Loc), vs[l]? = some v → fs[l]? = some f → ∀ (k : Nat) (g : List Loc × List Loc), k < l → fs[k]? = some g → v.before.testBit k = true ∨ clash g f = false) :
    ∀ (fuel t : Nat) (listed : Array Bool) (σ : St), listed.size = ops.size → (rem ops.size listed).length = fuel → (∀ (k : Nat) (v : VOper) (j : Nat), vs[k]? = some v → listed.getD k true = true → v.before.testBit j = true → listed.getD j true = true) →
      RunF callee base ((rem ops.size listed).map fun i => vs.getD i default) ((rem ops.size listed).map fun i => fs.getD i default) σ σ' → runAt callee base vs (Region.linearise.go m ops fuel t listed []) σ = some σ'
  | 0, t, listed, σ, hs, hr, hcl, hrun => by
    have : rem ops.size listed = [] := List.eq_nil_of_length_eq_zero hr
    rw [this] at hrun
    simp only [Region.linearise.go, List.reverse_nil, runAt]
    simp only [List.map_nil, RunF] at hrun
    rw [hrun]
  | fuel + 1, t, listed, σ, hs, hr, hcl, hrun => by
    simp only [Region.linearise.go]
    -- one is ready
    have hready : ∃ i, i < ops.size ∧ listed.getD i true = false ∧ ((ops[i]?).map (·.after.all fun e => !Region.binds m e || listed.getD e.on false)).getD false = true := by
      obtain ⟨i0, hi0⟩ : ∃ i, i ∈ rem ops.size listed := by
        cases h : rem ops.size listed with
        | nil => rw [h] at hr; simp at hr
        | cons x l => exact ⟨x, by simp⟩
      obtain ⟨h1, h2⟩ := List.mem_filter.1 hi0
      obtain ⟨r, r1, r2, r3⟩ := exists_least (p := fun r => (rem ops.size listed).any fun i => rank i == r) (i := rank i0) (List.any_eq_true.2 ⟨i0, hi0, by simp⟩)
      obtain ⟨k, hk, hkr⟩ := List.any_eq_true.1 r2
      have hkr : rank k = r := by simpa using hkr
      obtain ⟨k1, k2⟩ := List.mem_filter.1 hk
      have k1 := List.mem_range.1 k1
      have k2 : listed.getD k true = false := by simpa using k2
      refine ⟨k, k1, k2, ?_⟩
      have ho : ops[k]? = some ops[k] := Array.getElem?_eq_getElem k1
      rw [ho]
      simp only [Option.map_some, Option.getD_some, Array.all_eq_true']
      intro e he
      cases hb : Region.binds m e with
      | false => rfl
      | true =>
      obtain ⟨e1, e2⟩ := hrank k _ ho e (by simpa using he) hb
      have hl : listed.getD e.on true = true := by
        cases hx : listed.getD e.on true with
        | true => rfl
        | false =>
          have := r3 (rank e.on) (by omega)
          have h := List.any_eq_false.1 this e.on (List.mem_filter.2 ⟨List.mem_range.2 e1, by rw [hx]; rfl⟩)
          simp at h
      have hl2 : listed.getD e.on false = true := by
        have hb : e.on < listed.size := by omega
        simp only [Array.getD_eq_getD_getElem?, Array.getElem?_eq_getElem hb, Option.getD_some] at hl ⊢
        exact hl
      rw [hl2]; simp
    generalize hrs : ((List.range ops.size).filter fun i => !listed.getD i true && ((ops[i]?).map (·.after.all fun e => !Region.binds m e || listed.getD e.on false)).getD false) = rs
    have hpos : 0 < rs.length := by
      obtain ⟨i, h1, h2, h3⟩ := hready
      rw [← hrs]
      exact List.length_pos_of_mem (List.mem_filter.2 ⟨List.mem_range.2 h1, by rw [h2, h3]; rfl⟩)
    have hlt := Nat.mod_lt t hpos
    rw [List.getElem?_eq_getElem hlt]
    simp only
    have hmem : rs[t % rs.length] ∈ rs := List.getElem_mem hlt
    generalize rs[t % rs.length] = i at hmem
    rw [← hrs] at hmem
    obtain ⟨h1, h2⟩ := List.mem_filter.1 hmem
    have hi := List.mem_range.1 h1
    simp only [Bool.and_eq_true, Bool.not_eq_true'] at h2
    obtain ⟨h2, h3⟩ := h2
    obtain ⟨L1, L2, r1, r2, r3⟩ := rem_split hs hi h2
    obtain ⟨v, hv⟩ := exists_getElem? (l := vs) (i := i) (by omega)
    obtain ⟨f, hfi⟩ := exists_getElem? (l := fs) (i := i) (by omega)
    have ho : ops[i]? = some ops[i] := Array.getElem?_eq_getElem hi
    have hvo := hok i _ v ho hv
    -- what must run ahead of it has run
    have hbefore : ∀ j, v.before.testBit j = true → listed.getD j true = true := by
      intro j hj
      rw [hvo.before] at hj
      obtain ⟨e, e1, e2, e3⟩ := vbef_bit hj
      have hel : listed.getD e.on true = true := by
        rw [ho] at h3
        simp only [Option.map_some, Option.getD_some, Array.all_eq_true'] at h3
        have := h3 e (by simpa using e1)
        rw [binds_any e2] at this
        simp only [Bool.not_true, Bool.false_or] at this
        simp only [Array.getD_eq_getD_getElem?] at this ⊢
        cases hx : listed[e.on]? with
        | none => rw [hx] at this; cases this
        | some b => rw [hx] at this; simpa using this
      rcases e3 with rfl | e3
      · exact hel
      · have hlt2 := hvo.edges e e1 e2
        simp only [List.length_map, List.length_take] at hlt2
        obtain ⟨v2, hv2⟩ := exists_getElem? (l := vs) (i := e.on) (by omega)
        refine hcl e.on v2 j hv2 hel ?_
        have : ((vs.take i).map (·.before)).getD e.on 0 = v2.before := by
          rw [List.getD_eq_getElem?_getD, List.getElem?_map, List.getElem?_take_of_lt (by omega), hv2]; rfl
        rw [this] at e3; exact e3
    rw [r1, List.map_append, List.map_append, List.map_cons, List.map_cons] at hrun
    have hgv : vs.getD i default = v := getD_of_getElem? hv
    have hgf : fs.getD i default = f := getD_of_getElem? hfi
    rw [hgv, hgf] at hrun
    obtain ⟨σ1, g1, g2, g3⟩ := RunF.pull (by simp) hrun (fun g hg => by
      obtain ⟨j, hj, rfl⟩ := List.mem_map.1 hg
      obtain ⟨q1, q2⟩ := r3 j hj
      obtain ⟨g, hg'⟩ := exists_getElem? (l := fs) (i := j) (by omega)
      rw [getD_of_getElem? hg']
      rcases hpair i v f hv hfi j g q1 hg' with h | h
      · have := hbefore j h
        rw [q2] at this; cases this
      · exact h)
    rw [go_acc]
    simp only [List.reverse_cons, List.reverse_nil, List.nil_append, List.singleton_append, runAt, hv, g1]
    rw [← List.map_append, ← List.map_append, ← r2] at g3
    refine go_run hrank hlen hok hf hpair fuel _ _ σ1 (by simpa using hs) ?_ (fun k v' j hk hlk hj => ?_) g3
    · rw [r1] at hr; rw [r2]; simp only [List.length_append, List.length_cons] at hr ⊢; omega
    · rw [getD_set (by omega)] at hlk ⊢
      by_cases hji : j = i
      · rw [if_pos hji]
      · rw [if_neg hji]
        by_cases hki : k = i
        · subst hki
          rw [hv] at hk; cases hk
          exact hbefore j hj
        · rw [if_neg hki] at hlk
          exact hcl k v' j hk hlk hj
theorem map_getD {α : Type} [Inhabited α] (l : List α) : (List.range l.length).map (fun i => l.getD i default) = l := by
  apply List.ext_getElem
  · simp
  · intro i h1 h2
    simp [List.getD_eq_getElem?_getD, List.getElem?_eq_getElem h2]
theorem ordOk_rank {ops : Array Oper} (h : ordOk ops = true) (m : Region.Mode) : ∃ rank : Nat → Nat, ∀ (i : Nat) (o : Oper), ops[i]? = some o → ∀ e ∈ o.after.toList, Region.binds m e = true → e.on < ops.size ∧ rank e.on < rank i := by
  have key : ∀ (i : Nat) (o : Oper), ops[i]? = some o → ∀ e ∈ o.after.toList, e.on < ops.size ∧ ((∀ d, e.ground ≠ .gcOnly d) → e.on < i) ∧ (Region.binds .gc e = true → (Region.linearise .gc ops 0).findIdx (· == e.on) < (Region.linearise .gc ops 0).findIdx (· == i)) := by
    intro i o ho e he
    have hi : i < ops.size := by
      rcases Nat.lt_or_ge i ops.size with h | h
      · exact h
      · rw [Array.getElem?_eq_none h] at ho; cases ho
    have h1 := List.all_eq_true.1 h i (List.mem_range.2 hi)
    rw [ho] at h1
    have h2 := List.all_eq_true.1 h1 e he
    simp only [Bool.and_eq_true, decide_eq_true_eq, Bool.or_eq_true, Bool.not_eq_true'] at h2
    obtain ⟨⟨a1, a2⟩, a3⟩ := h2
    refine ⟨a1, fun hg => ?_, fun hb => ?_⟩
    · split at a2
      · rename_i d hd; exact absurd hd (hg d)
      · simpa using a2
    · rcases a3 with a3 | a3
      · rw [hb] at a3; cases a3
      · exact a3
  cases m with
  | gc => exact ⟨fun i => (Region.linearise .gc ops 0).findIdx (· == i), fun i o ho e he hb => ⟨(key i o ho e he).1, (key i o ho e he).2.2 hb⟩⟩
  | any => exact ⟨id, fun i o ho e he hb => ⟨(key i o ho e he).1, (key i o ho e he).2.1 fun d hd => by simp [Region.binds, hd] at hb⟩⟩
  | text => exact ⟨id, fun i o ho e he hb => ⟨(key i o ho e he).1, (key i o ho e he).2.1 fun d hd => by simp [Region.binds, hd] at hb⟩⟩
theorem sched_run {ops : Array Oper} {vs : List VOper} (hord : ordOk ops = true) (hlen : vs.length = ops.size) (hok : ∀ (i : Nat) (o : Oper) (v : VOper), ops[i]? = some o → vs[i]? = some v → VOperOk P ops ((vs.take i).map (·.before)) o v) (hr : runDraw callee base vs [] σ = some σ') (m : Region.Mode) (t : Nat) :
    runAt callee base vs (Region.linearise m ops t) σ = some σ' := by
  obtain ⟨fs, h1, h2⟩ := runDraw_sound hr
  have hfl := h1.len
  have hrem : rem ops.size (Array.replicate ops.size false) = List.range vs.length := by
    unfold rem
    rw [hlen, List.filter_eq_self]
    intro i hi
    have := List.mem_range.1 hi
    simp [this]
  unfold Region.linearise
  obtain ⟨rank, hrank⟩ := ordOk_rank hord m
  refine go_run hrank hlen hok hfl (fun l v f hv hf k g hk hg => h2 l v f hv hf k g (by simpa using hk) (by simpa using hg)) _ _ _ σ (by simp) (by rw [hrem]; simp [hlen]) (fun k v j hk hl _ => ?_) ?_
  · exfalso
    have hk' := lt_of_getElem? hk
    have hk2 : k < ops.size := by omega
    simp [hk2] at hl
  · rw [hrem, map_getD]
    have := map_getD fs
    rw [hfl] at this
    rw [this]; exact h1
/-- A region. -/
theorem region_sound {id : Nat} {ops : Array Oper} {vs : List VOper} {draw : Bool} {site m : Nat} (hcallee : CalleeOk P callee) (hc : cOps P ops site [] ops.toList = some (m, vs.map VOper.strip)) (hord : (draw && !ordOk ops) = false) (hC : CoreS n E σ [] a.tmps.toList [] w.heap)
    (hr : (if draw then runDraw callee base vs [] σ else runOps callee base vs σ) = some σ') (K : NextOk n base E σ' a w (Q .normal)) : (Code.region id ops draw).wp P Q a w := by
  obtain ⟨hl, hok⟩ := cOps_ok hc
  have hlen : vs.length = ops.size := by simpa using hl
  have hok' : ∀ (i : Nat) (o : Oper) (v : VOper), ops[i]? = some o → vs[i]? = some v → VOperOk P ops ((vs.take i).map (·.before)) o v := fun i o v ho hv => by
    have := hok i o v (by simpa using ho) hv
    simpa using this
  cases draw with
  | false =>
    simp only [Bool.false_eq_true, if_false] at hr
    refine wp_region ?_
    have := runOps_at (callee := callee) (base := base) vs [] σ
    rw [hr] at this
    simp only [List.nil_append, List.length_nil] at this
    rw [← hlen, List.range_eq_range']
    exact wpOps_sound (base := base) hcallee hlen hok' _ this.symm hC K
  | true =>
    simp only [if_true] at hr
    refine wp_region_draw fun t => ?_
    have hs : ∃ m t', Region.schedule (P.follows .mixedOrders) ops t = Region.linearise m ops t' := by
      unfold Region.schedule
      split
      · exact ⟨_, _, rfl⟩
      · exact ⟨_, _, rfl⟩
    obtain ⟨md, t', e⟩ := hs
    rw [e]
    exact wpOps_sound (base := base) hcallee hlen hok' _ (sched_run (by simpa using hord) hlen hok' hr md t') hC fun E' a' w' h1 h2 h3 h4 => K E' a' w' h1 h2 ⟨h3.os, h3.output, h3.tape⟩ h4
end
end Go.Vq
/- What is let go at a loop's head (no law of Go is stated here). -/
namespace Go.Vq
section
variable {P : Program} {n base : Nat} {E E' E2 : Env} {σ σ' : St} {hs : List V} {ts xs : List Value} {H H' H2 : Array Go.Obj} {keep ids : List Nat}

theorem rebSlots_get : ∀ (vs : List V) (j i : Nat), (rebSlots keep ids σ j vs)[i]? = (vs[i]?).map fun v => if keep.contains (j + i) then v.withLeaves (v.leaves.map (reb1 keep ids σ)) else .gone 0
  | [], j, i => by simp [rebSlots]
  | v :: vs, j, 0 => by simp [rebSlots]
  | v :: vs, j, i + 1 => by
    simp only [rebSlots, List.getElem?_cons_succ]
    rw [rebSlots_get vs (j + 1) i, show j + 1 + i = j + (i + 1) by omega]
theorem rebSlots_len : ∀ (vs : List V) (j : Nat), (rebSlots keep ids σ j vs).length = vs.length
  | [], j => rfl
  | v :: vs, j => by simp [rebSlots, rebSlots_len]
theorem reb1_leaf {u : V} (h : u.leaf = true) : (reb1 keep ids σ u).leaf = true := by
  cases u <;> first
    | (simp [V.leaf] at h; done)
    | rfl
    | (simp only [reb1]; split <;> rfl)
    | (rename_i r; cases r <;> simp only [reb1] <;> split <;> rfl)
    | (rename_i r l; cases r <;> simp only [reb1] <;> split <;> rfl)
theorem reb1_inObj {u : V} (h : u.inObj = true) : (reb1 keep ids σ u).inObj = true := by
  cases u <;> first
    | (simp [V.inObj] at h; done)
    | exact h
    | rfl
    | (simp only [reb1]; split <;> rfl)
    | (rename_i r; cases r <;> first | (simp [V.inObj] at h; done) | (simp only [reb1]; split <;> rfl))
/-- The state with the objects 'ids' kept. -/
def rebSt (keep ids : List Nat) (σ : St) : St := { slots := rebSlots keep ids σ 0 σ.slots, objs := σ.objs.mapIdx fun i x => if ids.contains i then rebObj keep ids σ x else none }
theorem rebSt_obj {o : Nat} {x : Option Obj} (h : σ.objs[o]? = some x) : (rebSt keep ids σ).objs[o]? = some (if ids.contains o then rebObj keep ids σ x else none) := by
  simp only [rebSt, List.getElem?_mapIdx, h, Option.map_some]
theorem reb_alive {o : Nat} (h : alive σ.objs o) (hi : ids.contains o = true) : alive (rebSt keep ids σ).objs o := by
  obtain ⟨x, hx⟩ := h
  have := rebSt_obj (keep := keep) (ids := ids) hx
  rw [if_pos hi] at this
  cases x with
  | cells cs => exact ⟨_, this⟩
  | map es => exact ⟨_, this⟩
/-- A home that is kept. -/
theorem homeOk_ct (hC : CoreS n E σ [] ts [] H) {h : Home} {g : Nat} (hk : homeOk keep ids σ h g = true) : ∃ w, ct σ.slots σ.objs h = some w ∧ (∃ sz es, w = .xsl g sz es ∨ w = .isl g sz es ∨ w = .fsl g sz es) ∧ ct (rebSt keep ids σ).slots (rebSt keep ids σ).objs h = some (reb1 keep ids σ w) := by
  have hat : ∀ {x : Option V}, (match x with | some (.xsl g' _ _) | some (.isl g' _ _) | some (.fsl g' _ _) => g' == g | _ => false) = true → ∃ w, x = some w ∧ ∃ sz es, w = .xsl g sz es ∨ w = .isl g sz es ∨ w = .fsl g sz es := by
    intro x hx
    split at hx <;> first
      | (cases hx; done)
      | (simp only [beq_iff_eq] at hx; subst hx; exact ⟨_, rfl, _, _, .inl rfl⟩)
      | (simp only [beq_iff_eq] at hx; subst hx; exact ⟨_, rfl, _, _, .inr (.inl rfl)⟩)
      | (simp only [beq_iff_eq] at hx; subst hx; exact ⟨_, rfl, _, _, .inr (.inr rfl)⟩)
  cases h with
  | slot s off =>
    simp only [homeOk, Bool.and_eq_true] at hk
    obtain ⟨w, hw, hf⟩ := hat hk.2
    refine ⟨w, hw, hf, ?_⟩
    have hs : s < n := by
      rcases Nat.lt_or_ge s n with h | h
      · exact h
      · rw [hC.slotBig (by omega)] at hw
        cases off with
        | zero => simp [V.leaves] at hw; subst hw; obtain ⟨_, _, h | h | h⟩ := hf <;> cases h
        | succ i => simp [V.leaves] at hw
    have hS := hC.slotRel hs
    obtain ⟨v, hv⟩ := exists_getElem? (l := σ.slots) (i := s) (hC.sl ▸ hs)
    have e : σ.slot s = v := getD_of_getElem? hv
    rw [e] at hw hS
    have hg := rebSlots_get (keep := keep) (ids := ids) (σ := σ) σ.slots 0 s
    rw [hv, Nat.zero_add] at hg
    simp only [Option.map_some, hk.1, if_true] at hg
    simp only [ct, rebSt, List.getD_eq_getElem?_getD, hg, Option.getD_some]
    rw [withLeaves_leaves hS.formed (by simp) (fun u hu => by
      obtain ⟨u0, hu0, rfl⟩ := List.mem_map.1 hu
      exact reb1_leaf (hS.leafs u0 hu0)), List.getElem?_map, hw]
    rfl
  | obj o off =>
    simp only [homeOk, Bool.and_eq_true] at hk
    obtain ⟨hi, hk⟩ := hk
    split at hk
    · rename_i cs ho
      obtain ⟨w, hw, hf⟩ := hat hk
      have ho' := obj_some ho
      have := rebSt_obj (keep := keep) (ids := ids) ho'
      rw [if_pos hi] at this
      refine ⟨w, by simp only [ct, ho']; exact hw, hf, ?_⟩
      simp only [ct, this, rebObj, List.getElem?_map, hw]; rfl
    · cases hk
theorem homeOk_valid (hC : CoreS n E σ [] ts [] H) {h : Home} {g sz : Nat} (hk : homeOk keep ids σ h g = true) (hv : valid (rebSt keep ids σ).slots (rebSt keep ids σ).objs h 0 sz) : valid σ.slots σ.objs h g sz := by
  obtain ⟨w, h1, ⟨sz', es, hf⟩, h2⟩ := homeOk_ct hC hk
  obtain ⟨w', h3, h4⟩ := hv
  rw [h2] at h3; cases h3
  refine ⟨w, h1, ?_⟩
  rcases hf with rfl | rfl | rfl <;> (simp only [reb1, V.gen?, Option.some.injEq, Prod.mk.injEq] at h4 ⊢; exact ⟨trivial, h4.2⟩)
theorem reb1_rel (hC : CoreS n E σ [] ts [] H) {h : Home} {u : V} {y : Value} (hR : RelV E σ.slots σ.objs ts H h u y) : RelV E (rebSt keep ids σ).slots (rebSt keep ids σ).objs ts H h (reb1 keep ids σ u) y := by
  cases u <;> first | exact hR.elim | skip
  case srf hh g sz off len =>
    simp only [reb1]
    split
    · rename_i hk
      obtain ⟨a', c', e1, e2, e3, e4, e5⟩ := hR
      exact ⟨a', c', e1, e2, e3, e4, fun hvl => e5 (homeOk_valid hC hk hvl)⟩
    · trivial
  case ptr r =>
    cases r with
    | obj o off =>
      simp only [reb1]
      split
      · rename_i hi
        exact ⟨hR.1, reb_alive hR.2 hi⟩
      · trivial
    | elem hh g sz i off =>
      simp only [reb1]
      split
      · rename_i hk
        obtain ⟨ad', e1, e2⟩ := hR
        exact ⟨ad', e1, fun hvl => e2 (homeOk_valid hC hk hvl)⟩
      · trivial
  case asl r len =>
    cases r with
    | obj o off =>
      simp only [reb1]
      split
      · rename_i hi
        obtain ⟨c, e1, e2, e3⟩ := hR
        exact ⟨c, e1, e2, reb_alive e3 hi⟩
      · trivial
    | elem hh g sz i off =>
      simp only [reb1]
      split
      · rename_i hk
        obtain ⟨ad', c', e1, e2, e3, e4⟩ := hR
        exact ⟨ad', c', e1, e2, e3, fun hvl => e4 (homeOk_valid hC hk hvl)⟩
      · trivial
  case map o =>
    simp only [reb1]
    split
    · rename_i hi
      exact ⟨hR.1, reb_alive hR.2 hi⟩
    · trivial
  case func f cs =>
    simp only [reb1]
    split
    · rename_i hi
      exact RelC.mono (fun _ _ h => ⟨h, rfl⟩) hR (fun o ho hal => ⟨rfl, reb_alive hal (List.all_eq_true.1 hi o ho)⟩)
    · trivial
  case nilS sz =>
    have e := relV_toVal hR rfl
    subst e
    exact ⟨none, 0, rfl, Nat.le_refl _, fun _ => rfl, fun _ h => (by cases h), fun h => absurd rfl h, Elems.nil _ _ _ _⟩
  case isl g sz es =>
    simp only [RelV, reb1] at hR ⊢
    cases hR with
    | isl _ _ _ a cap xs hc ha hsp hz hx h => exact .isl _ _ _ a cap xs hc ha hsp hz hx h
  all_goals exact hR
theorem reb_sound (hC : CoreS n E σ [] ts [] H) : CoreS n E (rebSt keep ids σ) [] ts [] H := by
  have h0 := hC.core
  simp only [List.append_nil] at h0
  have hsl : (rebSt keep ids σ).slots.length = n := by simp only [rebSt, rebSlots_len]; exact hC.sl
  refine ⟨hsl, hC.tl, ?_⟩
  simp only [List.append_nil]
  have hget : ∀ (s : Nat) (v' : V), (rebSt keep ids σ).slots[s]? = some v' → ∃ v, σ.slots[s]? = some v ∧ ((keep.contains s = true ∧ v' = v.withLeaves (v.leaves.map (reb1 keep ids σ))) ∨ v' = .gone 0) := by
    intro s v' hv'
    simp only [rebSt, rebSlots_get, Nat.zero_add] at hv'
    obtain ⟨v, hv, e⟩ := Option.map_eq_some_iff.1 hv'
    refine ⟨v, hv, ?_⟩
    split at e
    · exact .inl ⟨by assumption, e.symm⟩
    · exact .inr e.symm
  have hlv : ∀ (s : Nat) (v : V), σ.slots[s]? = some v → (v.withLeaves (v.leaves.map (reb1 keep ids σ))).leaves = v.leaves.map (reb1 keep ids σ) ∧ v.formed ∧ ∀ u ∈ v.leaves.map (reb1 keep ids σ), u.leaf = true := by
    intro s v hv
    obtain ⟨x, hx⟩ := exists_getElem? (l := ts) (i := s) (by have := lt_of_getElem? hv; rw [hC.tl, ← hC.sl]; exact this)
    have hS := h0.slot s v x hv hx
    have hlf : ∀ u ∈ v.leaves.map (reb1 keep ids σ), u.leaf = true := by
      intro u hu
      obtain ⟨u0, hu0, rfl⟩ := List.mem_map.1 hu
      exact reb1_leaf (hS.leafs u0 hu0)
    exact ⟨withLeaves_leaves hS.formed (by simp) hlf, hS.formed, hlf⟩
  refine ⟨by rw [hsl, hC.tl], by rw [hsl]; exact Nat.le_refl _, fun s v' x hv' hx => ?_, fun o cs' ho' => ?_, h0.fresh, fun s v' hv' q hq => ?_⟩
  · obtain ⟨v, hv, ⟨_, rfl⟩ | rfl⟩ := hget s v' hv'
    · have hS := h0.slot s v x hv hx
      obtain ⟨l1, l2, l3⟩ := hlv s v hv
      refine ⟨?_, fun i u y hu hy => ?_⟩
      · by_cases hg : ∃ g, v = .gone g
        · obtain ⟨g, rfl⟩ := hg; trivial
        · exact withLeaves_shape l2 (by simp) l3 hS.1 (fun g e => hg ⟨g, e⟩)
      · rw [l1, List.getElem?_map] at hu
        obtain ⟨u0, hu0, rfl⟩ := Option.map_eq_some_iff.1 hu
        exact reb1_rel hC (hS.2 i u0 y hu0 hy)
    · exact ⟨trivial, fun i u y hu _ => by
        cases i with
        | zero => simp [V.leaves] at hu; subst hu; trivial
        | succ i => simp [V.leaves] at hu⟩
  · simp only [rebSt, List.getElem?_mapIdx] at ho'
    obtain ⟨x, hx, e⟩ := Option.map_eq_some_iff.1 ho'
    split at e
    · cases x with
      | none => cases e
      | some x =>
        cases x with
        | map => cases e
        | cells cs =>
          simp only [rebObj, Option.some.injEq, Obj.cells.injEq] at e
          subst e
          obtain ⟨arr, T, f, g1, g2, g3, g4, g5, g6⟩ := h0.obj o cs hx
          refine ⟨arr, T, f, g1, g2, by simpa using g3, g4, fun i u y hu hy => ?_, fun u hu => ?_⟩
          · rw [List.getElem?_map] at hu
            obtain ⟨u0, hu0, rfl⟩ := Option.map_eq_some_iff.1 hu
            exact reb1_rel hC (g5 i u0 y hu0 hy)
          · obtain ⟨u0, hu0, rfl⟩ := List.mem_map.1 hu
            exact reb1_inObj (g6 u0 hu0)
    · cases e
  · obtain ⟨v, hv, ⟨_, rfl⟩ | rfl⟩ := hget s v' hv'
    · obtain ⟨l1, l2, l3⟩ := hlv s v hv
      rw [refs_of_leaves l1, List.mem_flatMap] at hq
      obtain ⟨u, hu, hq⟩ := hq
      obtain ⟨u0, hu0, rfl⟩ := List.mem_map.1 hu
      have key : ∀ hh g, (hh, g) ∈ u0.refs1 → homeOk keep ids σ hh g = true → q = (hh, 0) → (∀ t i, q.1 = .slot t i → t < n) ∧ ∃ w, ct (rebSt keep ids σ).slots (rebSt keep ids σ).objs q.1 = some w ∧ q.2 < w.nextg := by
        intro hh g h1 h2 h3
        subst h3
        have hrf := h0.refs s v hv (hh, g) (by rw [V.refs, List.mem_flatMap]; exact ⟨u0, hu0, h1⟩)
        obtain ⟨w, w1, ⟨sz, es, w2⟩, w3⟩ := homeOk_ct hC h2
        refine ⟨hrf.1, _, w3, ?_⟩
        rcases w2 with rfl | rfl | rfl <;> simp [reb1, V.nextg]
      cases u0 <;> first
        | (simp [reb1, V.refs1] at hq; done)
        | (simp only [reb1] at hq; split at hq <;> simp [V.refs1] at hq; done)
        | skip
      case srf hh g sz off len =>
        simp only [reb1] at hq
        split at hq
        · exact key hh g (by simp [V.refs1]) (by assumption) (by simpa [V.refs1] using hq)
        · simp [V.refs1] at hq
      case ptr r =>
        cases r with
        | obj o off => simp only [reb1] at hq; split at hq <;> simp [V.refs1] at hq
        | elem hh g sz i off =>
          simp only [reb1] at hq
          split at hq
          · exact key hh g (by simp [V.refs1]) (by assumption) (by simpa [V.refs1] using hq)
          · simp [V.refs1] at hq
      case asl r len =>
        cases r with
        | obj o off => simp only [reb1] at hq; split at hq <;> simp [V.refs1] at hq
        | elem hh g sz i off =>
          simp only [reb1] at hq
          split at hq
          · exact key hh g (by simp [V.refs1]) (by assumption) (by simpa [V.refs1] using hq)
          · simp [V.refs1] at hq
    · simp [V.refs, V.leaves, V.refs1] at hq
theorem rebase_sound {keep : Option (List Nat)} (hC : CoreS n E σ [] ts [] H) : CoreS n E (rebase? keep base σ) [] ts [] H := by
  cases keep with
  | none => exact hC
  | some keep => exact reb_sound (keep := keep) (ids := keptObjs keep σ base) hC
end
end Go.Vq
/- Code (no law of Go is stated here). -/
namespace Go.Vq
theorem wp_loop_fuel {P : Program} {Q : Exit → Act → World → Prop} {a : Act} {w : World} {c : Code} {m : Nat} (J : Nat → Act → World → Prop) (h₀ : J m a w)
    (round : ∀ m a w, J m a w → c.wp P (Exit.then (fun a' w' => ∃ m', m' < m ∧ J m' a' w') Q) a w) : (Code.loop c).wp P Q a w := by
  intro b k cs
  have key : ∀ n a w, J n a w → ∃ e a' w', Q e a' w' ∧ Arrives P (lone (b.at a (.code c :: .inLoop c :: k)) cs w) b k cs e a' w' := by
    intro n
    induction n using Nat.strongRecOn with
    | _ n ih =>
      intro a w hI
      obtain ⟨e, a₁, w₁, hq, harr⟩ := round n a w hI b (.inLoop c :: k) cs
      cases e with
      | normal =>
        obtain ⟨m', hlt, hI₁⟩ := hq
        obtain ⟨e₂, a₂, w₂, hq₂, harr₂⟩ := ih m' hlt a₁ w₁ hI₁
        exact ⟨e₂, a₂, w₂, hq₂, .of_steps (Steps.trans harr (.one step_inLoop)) harr₂⟩
      | exit id => exact ⟨_, a₁, w₁, hq, .pass (x := .inLoop c) rfl (fun _ _ => .inl (by simp)) harr⟩
      | goto l => exact ⟨_, a₁, w₁, hq, .pass (x := .inLoop c) rfl (fun _ _ => .inl (by simp)) harr⟩
      | ret => exact ⟨_, a₁, w₁, hq, .pass (x := .inLoop c) rfl (fun _ _ => .inl (by simp)) harr⟩
      | panic ch => exact ⟨_, a₁, w₁, hq, .pass (x := .inLoop c) rfl (fun _ _ => .inl (by simp)) harr⟩
      | outgrown => exact ⟨_, a₁, w₁, hq, .pass (x := .inLoop c) rfl (fun _ _ => .inl (by simp)) harr⟩
  obtain ⟨e, a', w', hq, harr⟩ := key _ a w h₀
  exact ⟨e, a', w', hq, .of_steps (.one step_loop) harr⟩
def Out.exit' : Out → Exit
  | .normal => .normal
  | .exit id => .exit id
  | .ret => .ret
section
variable {P : Program} {n base : Nat} {E E' E2 : Env} {σ σ' : St} {hs : List V} {ts xs : List Value} {H H' H2 : Array Go.Obj}
variable {a : Act} {w : World} {G : VProg}
theorem condV_sound {c : Operand} {c' : Opd} {b : Bool} (hC : CoreS n E σ [] a.tmps.toList [] w.heap) (hc : opd0 c = some c') (h : condV c' σ = some b) : a.eval c = .bool b := by
  have hr : (gBool c' fun b' => if b' = b then .ret else .fail).run σ = some σ := by
    cases c' with
    | tmp t =>
      simp only [condV] at h
      split at h
      · rename_i b' hb
        cases h
        simp only [gBool, gOpd, Prog.run, hb, if_true]
      · cases h
    | val v =>
      cases v <;> simp only [condV, Option.some.injEq, reduceCtorEq] at h
      subst h
      simp only [gBool, gOpd, if_true, Prog.run]
  obtain ⟨b', h1, h2⟩ := gBool_sound hC (opd0_ok a hc) hr
  by_cases e : b' = b
  · subst e; exact h1
  · rw [if_neg e] at h2; cases h2
theorem code_sound {M : Nat} (hcall : ∀ k, k ≤ M → CalleeOk P (call G k)) : ∀ (c : Code) {site m : Nat} {vc : VCode}, cCode P site c = some (m, vc.strip) → ∀ {k : Nat}, k ≤ M → ∀ {E : Env} {σ σ' : St} {out : Out} {a : Act} {w : World} {Q : Exit → Act → World → Prop},
    step (call G k) base (exec G k base) vc σ = some (out, σ') → CoreS n E σ [] a.tmps.toList [] w.heap → NextOk n base E σ' a w (Q out.exit') → c.wp P Q a w
  | .skip, site, m, vc, hc, k, hk, E, σ, σ', out, a, w, Q, hr, hC, K => by
    simp only [cCode, Option.some.injEq, Prod.mk.injEq] at hc
    cases vc <;> simp only [VCode.strip, reduceCtorEq, and_false] at hc
    simp only [step, Option.some.injEq, Prod.mk.injEq] at hr
    obtain ⟨rfl, rfl⟩ := hr
    exact wp_skip (K E a w hC (Grow.refl _ _ _) (WSame.refl _) rfl)
  | .region id ops draw, site, m, vc, hc, k, hk, E, σ, σ', out, a, w, Q, hr, hC, K => by
    simp only [cCode, Option.bind_eq_bind, Option.pure_def] at hc
    obtain ⟨⟨m', l⟩, h1, hc⟩ := Option.bind_eq_some_iff.1 hc
    dsimp only at hc
    have hord : (draw && !ordOk ops) = false := by
      cases hord : draw && !ordOk ops with
      | false => rfl
      | true => rw [hord] at hc; simp at hc
    rw [hord] at hc
    simp only [Bool.false_eq_true, if_false] at hc
    simp only [Option.some.injEq, Prod.mk.injEq] at hc
    cases vc <;> simp only [VCode.strip, reduceCtorEq, and_false] at hc
    rename_i vs draw' _
    obtain ⟨h2, h3⟩ := hc
    cases h3
    simp only [step, Option.map_eq_some_iff] at hr
    obtain ⟨σ1, h4, h5⟩ := hr
    cases h5
    exact region_sound (hcall k hk) h1 hord hC h4 K
  | .seq x y, site, m, vc, hc, k, hk, E, σ, σ', out, a, w, Q, hr, hC, K => by
    simp only [cCode, Option.bind_eq_bind, Option.pure_def] at hc
    obtain ⟨⟨m1, l1⟩, h1, hc⟩ := Option.bind_eq_some_iff.1 hc
    obtain ⟨⟨m2, l2⟩, h2, hc⟩ := Option.bind_eq_some_iff.1 hc
    simp only [Option.some.injEq, Prod.mk.injEq] at hc
    cases vc <;> simp only [VCode.strip, reduceCtorEq, and_false] at hc
    rename_i va vb _ _
    obtain ⟨_, h3⟩ := hc
    cases h3
    simp only [step] at hr
    refine wp_seq ?_
    cases hx : step (call G k) base (exec G k base) va σ with
    | none => rw [hx] at hr; cases hr
    | some r =>
      obtain ⟨o1, σ1⟩ := r
      rw [hx] at hr
      refine code_sound hcall x h1 hk hx hC fun E1 a1 w1 c1 c2 c3 c4 => ?_
      cases o1 with
      | normal =>
        simp only [Out.exit', Exit.then]
        exact code_sound hcall y h2 hk hr c1 fun E2 a2 w2 d1 d2 d3 d4 => K E2 a2 w2 d1 (c2.trans d2) (c3.trans d3) (d4.trans c4)
      | exit id => cases hr; exact K E1 a1 w1 c1 c2 c3 c4
      | ret => cases hr; exact K E1 a1 w1 c1 c2 c3 c4
  | .cond c x y, site, m, vc, hc, k, hk, E, σ, σ', out, a, w, Q, hr, hC, K => by
    simp only [cCode, Option.bind_eq_bind, Option.pure_def] at hc
    obtain ⟨c', h0, hc⟩ := Option.bind_eq_some_iff.1 hc
    obtain ⟨⟨m1, l1⟩, h1, hc⟩ := Option.bind_eq_some_iff.1 hc
    obtain ⟨⟨m2, l2⟩, h2, hc⟩ := Option.bind_eq_some_iff.1 hc
    simp only [Option.some.injEq, Prod.mk.injEq] at hc
    cases vc <;> simp only [VCode.strip, reduceCtorEq, and_false] at hc
    rename_i c2 va vb _
    obtain ⟨_, h3⟩ := hc
    cases h3
    simp only [step] at hr
    split at hr
    · rename_i hb
      exact wp_cond_true (condV_sound hC h0 hb) (code_sound hcall x h1 hk hr hC K)
    · rename_i hb
      exact wp_cond_false (condV_sound hC h0 hb) (code_sound hcall y h2 hk hr hC K)
    · cases hr
  | .block id x, site, m, vc, hc, k, hk, E, σ, σ', out, a, w, Q, hr, hC, K => by
    simp only [cCode, Option.bind_eq_bind, Option.pure_def] at hc
    obtain ⟨⟨m1, l1⟩, h1, hc⟩ := Option.bind_eq_some_iff.1 hc
    simp only [Option.some.injEq, Prod.mk.injEq] at hc
    cases vc <;> simp only [VCode.strip, reduceCtorEq, and_false] at hc
    rename_i id' va _
    obtain ⟨_, h3⟩ := hc
    cases h3
    simp only [step] at hr
    refine wp_block ?_
    cases hx : step (call G k) base (exec G k base) va σ with
    | none => rw [hx] at hr; cases hr
    | some r =>
      obtain ⟨o1, σ1⟩ := r
      rw [hx] at hr
      refine code_sound hcall x h1 hk hx hC fun E1 a1 w1 c1 c2 c3 c4 => ?_
      cases o1 with
      | normal => cases hr; exact K E1 a1 w1 c1 c2 c3 c4
      | exit id2 =>
        simp only [Option.some.injEq, Prod.mk.injEq] at hr
        obtain ⟨h5, rfl⟩ := hr
        simp only [Out.exit', Exit.inBlock]
        by_cases e : id2 = id
        · rw [if_pos e] at h5 ⊢; subst h5; exact K E1 a1 w1 c1 c2 c3 c4
        · rw [if_neg e] at h5 ⊢; subst h5; exact K E1 a1 w1 c1 c2 c3 c4
      | ret => cases hr; exact K E1 a1 w1 c1 c2 c3 c4
  | .loop x, site, m, vc, hc, k, hk, E, σ, σ', out, a, w, Q, hr, hC, K => by
    simp only [cCode, Option.bind_eq_bind, Option.pure_def] at hc
    obtain ⟨⟨m1, l1⟩, h1, hc⟩ := Option.bind_eq_some_iff.1 hc
    simp only [Option.some.injEq, Prod.mk.injEq] at hc
    cases vc <;> simp only [VCode.strip, reduceCtorEq, and_false] at hc
    rename_i keep va _
    obtain ⟨_, h3⟩ := hc
    cases h3
    refine wp_loop_fuel (m := k) (fun k' a' w' => ∃ E1 σ1, k' ≤ M ∧ step (call G k') base (exec G k' base) (.loop keep va) σ1 = some (out, σ') ∧ CoreS n E1 σ1 [] a'.tmps.toList [] w'.heap ∧ Grow base E w.heap E1 w'.heap ∧ WSame w w' ∧ a'.defers = a.defers) ⟨E, σ, hk, hr, hC, Grow.refl _ _ _, WSame.refl _, rfl⟩ ?_
    rintro k' a' w' ⟨E1, σ1, hk', hr', hC', hG', hW', hd'⟩
    simp only [step] at hr'
    cases hx : step (call G k') base (exec G k' base) va (rebase? keep base σ1) with
    | none => rw [hx] at hr'; cases hr'
    | some r =>
      obtain ⟨o1, σ2⟩ := r
      rw [hx] at hr'
      refine code_sound hcall x h1 hk' hx (rebase_sound hC') fun E2 a2 w2 c1 c2 c3 c4 => ?_
      cases o1 with
      | normal =>
        simp only at hr'
        cases k' with
        | zero => simp only [exec] at hr'; cases hr'
        | succ k'' =>
          simp only [exec] at hr'
          exact ⟨k'', Nat.lt_succ_self _, E2, σ2, by omega, hr', c1, hG'.trans c2, hW'.trans c3, c4.trans hd'⟩
      | exit id => cases hr'; exact K E2 a2 w2 c1 (hG'.trans c2) (hW'.trans c3) (c4.trans hd')
      | ret => cases hr'; exact K E2 a2 w2 c1 (hG'.trans c2) (hW'.trans c3) (c4.trans hd')
  | .scope x, site, m, vc, hc, k, hk, E, σ, σ', out, a, w, Q, hr, hC, K => by
    simp only [cCode] at hc
    refine wp_scope_straight ?_
    refine code_sound hcall x hc hk hr hC fun E1 a1 w1 c1 c2 c3 c4 => ?_
    have := K E1 a1 w1 c1 c2 c3 c4
    cases out <;> exact this
  | .exit id, site, m, vc, hc, k, hk, E, σ, σ', out, a, w, Q, hr, hC, K => by
    simp only [cCode, Option.some.injEq, Prod.mk.injEq] at hc
    cases vc <;> simp only [VCode.strip, reduceCtorEq, and_false] at hc
    obtain ⟨_, h3⟩ := hc
    cases h3
    simp only [step, Option.some.injEq, Prod.mk.injEq] at hr
    obtain ⟨rfl, rfl⟩ := hr
    exact wp_exit (K E a w hC (Grow.refl _ _ _) (WSame.refl _) rfl)
  | .ret, site, m, vc, hc, k, hk, E, σ, σ', out, a, w, Q, hr, hC, K => by
    simp only [cCode, Option.some.injEq, Prod.mk.injEq] at hc
    cases vc <;> simp only [VCode.strip, reduceCtorEq, and_false] at hc
    simp only [step, Option.some.injEq, Prod.mk.injEq] at hr
    obtain ⟨rfl, rfl⟩ := hr
    exact wp_ret (K E a w hC (Grow.refl _ _ _) (WSame.refl _) rfl)
  | .rangeFunc .., _, _, _, hc, _, _, _, _, _, _, _, _, _, _, _, _ => by cases hc
  | .label .., _, _, _, hc, _, _, _, _, _, _, _, _, _, _, _, _ => by cases hc
  | .goto .., _, _, _, hc, _, _, _, _, _, _, _, _, _, _, _, _ => by cases hc
  | .refuse .., _, _, _, hc, _, _, _, _, _, _, _, _, _, _, _, _ => by cases hc
end
end Go.Vq
/- How a function ends (no law of Go is stated here). -/
namespace Go.Vq
section
variable {P : Program} {n base : Nat} {E E' E2 : Env} {σ σ' : St} {hs : List V} {ts xs : List Value} {H H' H2 : Array Go.Obj}
variable {a : Act} {w : World} {G : VProg}

theorem res1_Sound {b : Nat} : Sound1 n base (res1 b) (fun u => ∀ g, u ≠ .gone g) := by
  intro E σ σ' hs ts xs H w x h i u k hC hu hr
  have hS := hand_rel hC
  have hsame : w.withLeaves (w.leaves.set i u) = w := by rw [set_same hu, withLeaves_same hS.formed]
  have hul := hS.leafs u (List.mem_of_getElem? hu)
  have hid : (∀ g, u ≠ .gone g) → (k u).run σ = some σ' → ∃ E1 σ1 u', CoreS n E1 σ1 (hs ++ [w.withLeaves (w.leaves.set i u')]) ts (xs ++ [x]) H ∧ Grow base E H E1 H ∧ E1.addr = E.addr ∧ (k u').run σ1 = some σ' ∧ u'.leaf = true ∧ ∀ g, u' ≠ .gone g :=
    fun hg hr => ⟨E, σ, u, by rw [hsame]; exact hC, Grow.refl _ _ _, rfl, hr, hul, hg⟩
  have hstay : ∀ u', (∀ g, u' ≠ .gone g) → (k u').run σ = some σ' → u'.leaf = true → u'.refs1 = [] → (∀ g, u ≠ .gone g) → (∀ slots' y, RelV E (σ.slots ++ (hs ++ [w])) σ.objs (ts ++ (xs ++ [x])) H (.slot (n + hs.length) i) u y → RelV E slots' σ.objs (ts ++ (xs ++ [x])) H (.slot (n + hs.length) i) u' y) →
      ∃ E1 σ1 u', CoreS n E1 σ1 (hs ++ [w.withLeaves (w.leaves.set i u')]) ts (xs ++ [x]) H ∧ Grow base E H E1 H ∧ E1.addr = E.addr ∧ (k u').run σ1 = some σ' ∧ u'.leaf = true ∧ ∀ g, u' ≠ .gone g := by
    intro u' hg' hr h1 h2 hg h5
    refine ⟨E, σ, u', ?_, Grow.refl _ _ _, rfl, hr, h1, hg'⟩
    exact hC.turnHand hu hg ⟨h1, h2⟩ rfl (fun _ _ h => h) (fun _ _ _ _ _ _ h => h) (fun _ _ _ _ _ _ _ h => h) (fun _ _ h => h) (fun _ h => h) (fun y _ hR slots' => h5 slots' y hR)
  cases u <;> first
    | exact hid (fun g => by simp) hr
    | (cases hr; done)
    | skip
  case isl g sz es =>
    refine hstay (.isl 0 sz es) (fun g => by simp) hr rfl rfl (fun g => by simp) fun slots' y hR => ?_
    simp only [RelV] at hR ⊢
    cases hR with
    | isl _ _ _ a cap xs hc ha hsp hz hx h => exact .isl _ _ _ a cap xs hc ha hsp hz hx h
  case xsl g sz es => exact hstay (.xsl 0 sz es) (fun g => by simp) hr rfl rfl (fun g => by simp) fun slots' y hR => hR
  case fsl g sz es => exact hstay (.fsl 0 sz es) (fun g => by simp) hr rfl rfl (fun g => by simp) fun slots' y hR => hR
  case csl sz es => exact hstay (.isl 0 sz es) (fun g => by simp) hr rfl rfl (fun g => by simp) fun slots' y hR => hR.1
  case nilS sz =>
    refine hstay (.xsl 0 sz []) (fun g => by simp) hr rfl rfl (fun g => by simp) fun slots' y hR => ?_
    have e := relV_toVal hR rfl
    subst e
    exact ⟨none, 0, rfl, Nat.le_refl _, fun _ => rfl, fun _ h => (by cases h), fun h => absurd rfl h, Elems.nil _ _ _ _⟩
  case srf hh g sz off len =>
    obtain ⟨X, hX⟩ : ∃ X, res1 b h (.srf hh g sz off len) k = settle1 X (.srf hh g sz off len) k := ⟨_, rfl⟩
    rw [hX] at hr
    have hr2 : (settle1 X (.srf hh g sz off len) fun v => match v with | .gone _ => .fail | v => k v).run σ = some σ' := by
      have e : ∀ es : List V, (match (if off + len = es.length then V.fsl 0 sz ((es.drop off).take len) else V.isl 0 sz ((es.drop off).take len)) with | .gone _ => .fail | v => k v) = k (if off + len = es.length then V.fsl 0 sz ((es.drop off).take len) else V.isl 0 sz ((es.drop off).take len)) := by
        intro es
        by_cases hc : off + len = es.length
        · simp only [if_pos hc]
        · simp only [if_neg hc]
      simp only [settle1, e] at hr ⊢
      exact hr
    obtain ⟨E1, σ1, u', h1, h2, h3, h4, h5, _, _⟩ := settle1_sound (base := base) hC hu hr2
    cases u' <;> first
      | (cases h4; done)
      | exact ⟨E1, σ1, _, h1, h2, h3, h4, h5, fun g => by simp⟩
theorem ress_sound {b : Nat} {v : V} {x : Value} {k : V → Prog} (hnt : ∀ vs, v ≠ .tup vs) (hC : CoreS n E σ (hs ++ [v]) ts (xs ++ [x]) H) (hr : (ress b v.leaves fun ls => k (v.withLeaves ls)).run σ = some σ') :
    ∃ E1 σ1 v', CoreS n E1 σ1 (hs ++ [v']) ts (xs ++ [x]) H ∧ Grow base E H E1 H ∧ (k v').run σ1 = some σ' ∧ (v'.leaf = true ∨ ∃ cs, v' = .agg cs) ∧ ∀ g, v' ≠ .gone g := by
  obtain ⟨E1, σ1, ls, c1, c2, c3, c4, c5, c6⟩ := list_sound (base := base) (res1_Sound (b := b)) (fun _ _ vs k => ress b vs k) (fun _ _ _ => rfl) (fun _ _ _ _ _ => rfl) (fun _ => none) v.leaves [] hC rfl hr
  refine ⟨E1, σ1, _, c1, c2, c4, ?_⟩
  rw [List.nil_append]
  by_cases hl : v.leaf = true
  · rw [withLeaves_leaf hl]
    rw [leaves_leaf hl] at c5
    cases ls with
    | nil => simp at c5
    | cons l ls => exact ⟨.inl (c6 l (by simp)).1, (c6 l (by simp)).2⟩
  · cases v <;> first | exact absurd rfl hl | exact absurd rfl (hnt _) | exact ⟨.inr ⟨_, rfl⟩, fun g => by simp [V.withLeaves]⟩
/-- What a result variable is. -/
def ResIs (P : Program) (w : World) (tmps : Array Value) (r : ResultVar) (x : Value) : Prop :=
  match r with
  | .tmp t => tmps.getD t undef = x
  | .cell a t => ∃ ad, tmps.getD a undef = .pointer (some ad) ∧ (loadVar t ad).run P w = .ok x w
theorem getRes_sound {b : Nat} {r : ResultVar} {v : VRes} {k : V → Prog} (hc : cRes P r = some v) (hC : CoreS n E σ hs a.tmps.toList xs w.heap) (hr : (getRes b v k).run σ = some σ') :
    ∃ E1 σ1 u x, CoreS n E1 σ1 (hs ++ [u]) a.tmps.toList (xs ++ [x]) w.heap ∧ Grow base E w.heap E1 w.heap ∧ (k u).run σ1 = some σ' ∧ ResIs P w a.tmps r x ∧ (u.leaf = true ∨ ∃ cs, u = .agg cs) ∧ ∀ g, u ≠ .gone g := by
  cases r with
  | tmp t =>
    simp only [cRes, Option.some.injEq] at hc
    subst hc
    simp only [getRes] at hr
    have hok : OpdOk a.tmps.toList (.tmp t) (a.tmps.getD t undef) := by simp [OpdOk, Array.getD_eq_getD_getElem?, List.getD_eq_getElem?_getD]
    obtain ⟨v, hr2, hv, hrf, h1, h2⟩ := opd_rel (v := .nil) hC hok hr
    clear hr
    have hr3 : (∀ vs, v ≠ .tup vs) ∧ (drain (.tmp t) <| ress b v.leaves fun ls => k (v.withLeaves ls)).run σ = some σ' := by
      cases v <;> first | exact ⟨fun vs => by simp, hr2⟩ | (cases hr2; done)
    obtain ⟨hnt, hr3⟩ := hr3
    obtain ⟨E1, σ1, b1, b2, _, b4⟩ := grab_sound (base := base) hC hv hrf h1 h2 hok hr3
    obtain ⟨E2, σ2, u, c1, c2, c3, c4⟩ := ress_sound (base := base) hnt b1 b4
    exact ⟨E2, σ2, u, _, c1, b2.trans c2, c3, rfl, c4⟩
  | cell c t =>
    simp only [cRes, Option.bind_eq_bind, Option.pure_def] at hc
    obtain ⟨agg, ha, hc⟩ := Option.bind_eq_some_iff.1 hc
    obtain ⟨m, hs', hc⟩ := Option.bind_eq_some_iff.1 hc
    cases hc
    simp only [getRes] at hr
    have hok : OpdOk a.tmps.toList (.tmp c) (a.tmps.getD c undef) := by simp [OpdOk, Array.getD_eq_getD_getElem?, List.getD_eq_getElem?_getD]
    obtain ⟨u, hr, ⟨s, hS, hs''⟩, hrest⟩ := opd_rel (v := .nil) hC hok hr
    clear hrest hs''
    cases u <;> first | (cases hr; done) | skip
    rename_i r
    obtain ⟨_, hR⟩ := rel_leaf hS rfl (fun g => by simp)
    obtain ⟨ad, hx⟩ := (relE hS).1 r rfl
    rw [hx] at hR
    have hsp := gCells_spot hC hR hr
    obtain ⟨cs, hr2, hl, hcs⟩ := gCells_sound hC hR hr
    obtain ⟨v, hv, hr3⟩ := optV_run hr2
    have hlen : cs.length = (cellsAt w.heap ad m).length := by rw [hl, cellsAt_len]
    obtain ⟨hC2, h1⟩ := hC.pushCells (ys := cellsAt w.heap ad m) hlen (fun j z y hz hy => by
      obtain ⟨y', e1, e2, e3, e4, e5⟩ := hcs j z hz
      rw [cellsAt_get (by rw [← hl]; exact lt_of_getElem? hz) e1] at hy; cases hy
      exact ⟨⟨.slot 0 0, e2 _⟩, e3, e4, e5⟩) hv
    have hload := loadVar_run (w := w) ha hs' hsp (fun j hj => by
      obtain ⟨y', e1, _⟩ := hcs j cs[j] (List.getElem?_eq_getElem (by omega))
      exact ⟨y', e1⟩) (fun h => by rw [← hl]; exact h1 h)
    have hnt : ∀ vs, v ≠ .tup vs := by
      rintro vs rfl
      cases agg with
      | true => simp [ofCells] at hv
      | false =>
        simp only [ofCells, Bool.false_eq_true, if_false] at hv
        split at hv
        · cases hv
          obtain ⟨_, _, _, _, e4, _⟩ := hcs 0 _ rfl
          cases e4
        · cases hv
    obtain ⟨E2, σ2, u, c1, c2, c3, c4⟩ := ress_sound (base := base) hnt hC2 hr3
    exact ⟨E2, σ2, u, _, c1, c2, c3, ⟨ad, hx, hload⟩, c4⟩
theorem getRess_sound {b : Nat} : ∀ {rs : List ResultVar} {vs : List VRes} {k : List V → Prog} {E : Env} {σ : St} {hs : List V} {xs : List Value}, rs.mapM (cRes P) = some vs → CoreS n E σ hs a.tmps.toList xs w.heap → (getRess b vs k).run σ = some σ' →
    ∃ E1 σ1 us ys, CoreS n E1 σ1 (hs ++ us) a.tmps.toList (xs ++ ys) w.heap ∧ Grow base E w.heap E1 w.heap ∧ (k us).run σ1 = some σ' ∧ us.length = rs.length ∧ ys.length = rs.length ∧ (∀ (i : Nat) (r : ResultVar) (y : Value), rs[i]? = some r → ys[i]? = some y → ResIs P w a.tmps r y) ∧ ∀ u ∈ us, (u.leaf = true ∨ ∃ cs, u = .agg cs) ∧ ∀ g, u ≠ .gone g
  | [], vs, k, E, σ, hs, xs, h, hC, hr => by
    simp at h; subst h
    exact ⟨E, σ, [], [], by simpa using hC, Grow.refl _ _ _, hr, rfl, rfl, (fun i r y h => by simp at h), fun u h => by cases h⟩
  | r :: rs, vs, k, E, σ, hs, xs, h, hC, hr => by
    rw [List.mapM_cons] at h
    simp only [Option.bind_eq_bind, Option.pure_def] at h
    obtain ⟨v0, h0, h⟩ := Option.bind_eq_some_iff.1 h
    obtain ⟨vs', h1, h⟩ := Option.bind_eq_some_iff.1 h
    cases h
    simp only [getRess] at hr
    obtain ⟨E1, σ1, u, x, b1, b2, b3, b4, b5⟩ := getRes_sound (base := base) h0 hC hr
    obtain ⟨E2, σ2, us, ys, c1, c2, c3, c4, c5, c6, c7⟩ := getRess_sound h1 b1 b3
    refine ⟨E2, σ2, u :: us, x :: ys, by simpa using c1, b2.trans c2, c3, by simp [c4], by simp [c5], fun i r' y hr' hy => ?_, fun v hv => ?_⟩
    · cases i with
      | zero => simp at hr' hy; subst hr' hy; exact b4
      | succ i => exact c6 i r' y (by simpa using hr') (by simpa using hy)
    · rcases List.mem_cons.1 hv with rfl | hv
      · exact b5
      · exact c7 v hv
def packX : List Value → Value
  | [y] => y
  | ys => .tuple ys.toArray
def resF (tmps : Array Value) : ResultVar → Sem Value
  | .tmp t => pure (tmps.getD t undef)
  | .cell a t => do loadVar t (← asAddr (tmps.getD a undef))
theorem resF_run {tmps : Array Value} {r : ResultVar} {y : Value} (h : ResIs P w tmps r y) : (resF tmps r).run P w = .ok y w := by
  cases r with
  | tmp t =>
    simp only [ResIs] at h
    simp only [resF, Sem.run_pure, h]
  | cell c t =>
    obtain ⟨ad, e1, e2⟩ := h
    simp only [resF, Sem.run_bind, e1, asAddr, Sem.run_pure, Result.andThen_ok, e2]
theorem results_eq (fn : Func) (tmps : Array Value) : results fn tmps = (do let vs ← fn.results.mapM (resF tmps); pure (if h : vs.size = 1 then vs[0] else .tuple vs)) := by
  unfold results
  congr 1
/-- What the model hands back. -/
theorem results_run {fn : Func} {tmps : Array Value} {ys : List Value} (hl : ys.length = fn.results.toList.length) (h : ∀ (i : Nat) (r : ResultVar) (y : Value), fn.results.toList[i]? = some r → ys[i]? = some y → ResIs P w tmps r y) :
    (results fn tmps).run P w = .ok (packX ys) w := by
  have key : ∀ (rs : List ResultVar) (ys : List Value), ys.length = rs.length → (∀ (i : Nat) (r : ResultVar) (y : Value), rs[i]? = some r → ys[i]? = some y → ResIs P w tmps r y) →
      (rs.mapM (resF tmps)).run P w = .ok ys w := by
    intro rs
    induction rs with
    | nil => intro ys hl _; cases ys <;> simp at hl ⊢
    | cons r rs ih =>
      intro ys hl h
      cases ys with
      | nil => simp at hl
      | cons y ys =>
        have h1 := ih ys (by simpa using hl) fun i r y hr hy => h (i + 1) r y (by simpa using hr) (by simpa using hy)
        have h0 := resF_run (h 0 r y rfl rfl)
        rw [List.mapM_cons]
        simp only [Sem.run_bind, h0, Result.andThen_ok, h1, Sem.run_pure]
  have := key fn.results.toList ys hl h
  rw [results_eq, Array.mapM_eq_mapM_toList]
  simp only [Sem.run_bind, Sem.run_map, this, Result.andThen_ok, Sem.run_pure]
  congr 1
  cases ys with
  | nil => rfl
  | cons y ys => cases ys with
    | nil => rfl
    | cons z ys => simp [packX]
/-- One slot more. -/
theorem CoreS.extend (hC : CoreS n E σ [] ts [] H) : CoreS (n + 1) E { σ with slots := σ.slots ++ [.gone 0] } [] (ts ++ [undef]) [] H := by
  have h0 := hC.core
  simp only [List.append_nil] at h0
  have h1 := h0.push (v := .gone 0) (x := undef) ⟨trivial, fun i u y hu _ => by
    cases i with
    | zero => simp [V.leaves] at hu; subst hu; trivial
    | succ i => simp [V.leaves] at hu⟩ (by intro r hr; simp [V.refs, V.leaves, V.refs1] at hr)
  refine ⟨by simp [hC.sl], by simp [hC.tl], ?_⟩
  simp only [List.append_nil]
  exact ⟨h1.len, by simp [hC.sl], h1.slot, h1.obj, h1.fresh, fun s v hv r hr => ⟨fun t i e => by have := (h1.refs s v hv r hr).1 t i e; omega, (h1.refs s v hv r hr).2⟩⟩
end
end Go.Vq
/- How a function ends; every call (no law of Go is stated here). -/
namespace Go.Vq
theorem flat_pos {α β : Type} (f : α → List β) : ∀ (l : List α) (j : Nat) (z : β), (l.flatMap f)[j]? = some z → ∃ k i v, l[k]? = some v ∧ (f v)[i]? = some z ∧ j = ((l.take k).flatMap f).length + i
  | [], j, z, h => by simp at h
  | v :: l, j, z, h => by
    rw [List.flatMap_cons] at h
    rcases Nat.lt_or_ge j (f v).length with hj | hj
    · rw [List.getElem?_append_left hj] at h
      exact ⟨0, j, v, rfl, h, by simp⟩
    · rw [List.getElem?_append_right hj] at h
      obtain ⟨k, i, u, h1, h2, h3⟩ := flat_pos f l _ z h
      refine ⟨k + 1, i, u, by simpa using h1, h2, ?_⟩
      simp only [List.take_succ_cons, List.flatMap_cons, List.length_append]
      omega
theorem flat_len2 {α γ β δ : Type} (f : α → List β) (g : γ → List δ) : ∀ (l : List α) (m : List γ), l.length = m.length → (∀ (k : Nat) (v : α) (x : γ), l[k]? = some v → m[k]? = some x → (f v).length = (g x).length) → (l.flatMap f).length = (m.flatMap g).length
  | [], [], _, _ => rfl
  | [], _ :: _, h, _ => by simp at h
  | _ :: _, [], h, _ => by simp at h
  | v :: l, x :: m, h, hc => by
    have h1 := hc 0 v x rfl rfl
    have h2 := flat_len2 f g l m (by simpa using h) fun k v x hv hx => hc (k + 1) v x (by simpa using hv) (by simpa using hx)
    rw [List.flatMap_cons, List.flatMap_cons, List.length_append, List.length_append, h1, h2]
def packV : List V → V
  | [v] => v
  | vs => .tup vs
def packHome (N : Nat) (us : List V) : Home → Home
  | .slot s i => if N ≤ s then .slot N (((us.take (s - N)).flatMap V.cells).length + i) else .slot s i
  | h => h
section
variable {P : Program} {n base : Nat} {E E' E2 : Env} {σ σ' : St} {hs : List V} {ts xs : List Value} {H H' H2 : Array Go.Obj}
variable {a : Act} {w : World} {G : VProg}
/-- Results in hand as one value. -/
theorem CoreS.pack {us : List V} {ys : List Value} (hC : CoreS n E σ us ts ys H) (hu : ∀ u ∈ us, (u.leaf = true ∨ ∃ cs, u = .agg cs) ∧ ∀ g, u ≠ .gone g) :
    ∃ E1, CoreS n E1 σ [packV us] ts [packX ys] H ∧ Grow base E H E1 H ∧ ∀ z ∈ (packV us).leaves, z ∈ us.flatMap V.leaves := by
  have hl := hC.hl
  by_cases h1 : ∃ u y, us = [u] ∧ ys = [y]
  · obtain ⟨u, y, rfl, rfl⟩ := h1
    exact ⟨E, hC, Grow.refl _ _ _, fun z hz => List.mem_flatMap.2 ⟨u, by simp, hz⟩⟩
  · have hp : packV us = .tup us ∧ packX ys = .tuple ys.toArray := by
      cases us with
      | nil => cases ys with
        | nil => exact ⟨rfl, rfl⟩
        | cons => simp at hl
      | cons u us => cases ys with
        | nil => simp at hl
        | cons y ys => cases us with
          | nil => cases ys with
            | nil => exact absurd ⟨u, y, rfl, rfl⟩ h1
            | cons => simp at hl
          | cons u2 us => cases ys with
            | nil => simp at hl
            | cons => exact ⟨rfl, rfl⟩
    rw [hp.1, hp.2]
    have hS : ∀ (k : Nat) (u : V) (y : Value), us[k]? = some u → ys[k]? = some y → SlotRel E (σ.slots ++ us) σ.objs (ts ++ ys) H (n + k) u y := by
      intro k u y hk hy
      exact hC.core.slot (n + k) u y (by rw [List.getElem?_append_right (by rw [hC.sl]; omega), hC.sl, Nat.add_sub_cancel_left]; exact hk) (by rw [List.getElem?_append_right (by rw [hC.tl]; omega), hC.tl, Nat.add_sub_cancel_left]; exact hy)
    have hcl : ∀ u ∈ us, u.cells = u.leaves := by
      intro u hm
      rcases (hu u hm).1 with h | ⟨cs, rfl⟩
      · rw [cells_leaf h, leaves_leaf h]
      · rfl
    have hsh : ∀ (k : Nat) (u : V) (y : Value), us[k]? = some u → ys[k]? = some y → Shape1 u y ∧ vcells y = vleaves y := by
      intro k u y hk hy
      have hS1 := hS k u y hk hy
      obtain ⟨h2, h3⟩ := hu u (List.mem_of_getElem? hk)
      rcases h2 with h | ⟨cs, rfl⟩
      · have hx := leaf_shape h h3 hS1.1
        have hax : aggX y = false := by cases y <;> first | rfl | simp [leafX] at hx
        exact ⟨(shape1_leaf h).2 hax, by rw [vcells_leaf hax, vleaves_leaf hx]⟩
      · obtain ⟨zs, rfl, h4⟩ := hS1.1
        exact ⟨⟨zs, rfl, h4⟩, rfl⟩
    have hcnt : ∀ (k : Nat) (u : V) (y : Value), us[k]? = some u → ys[k]? = some y → u.cells.length = (vcells y).length := fun k u y hk hy => shape1_len (hsh k u y hk hy).1
    have hoff : ∀ k, ((us.take k).flatMap V.cells).length = ((ys.take k).flatMap vcells).length := by
      intro k
      refine flat_len2 _ _ _ _ (by simp [hl]) fun j v x hv hx => ?_
      have hj := lt_of_getElem? hv
      simp only [List.length_take] at hj
      rw [List.getElem?_take_of_lt (by omega)] at hv hx
      exact hcnt j v x hv hx
    have := CoreS.join (hs := []) (xs := []) (vs := us) (ys := ys) (p := .tup us) (xp := .tuple ys.toArray) (f := packHome n us) hC rfl ?_ ?_ ?_ ?_ ?_
    · refine ⟨_, this, Grow.retag _ _ _ _, fun z hz => ?_⟩
      obtain ⟨u, hm, hz⟩ := List.mem_flatMap.1 (show z ∈ us.flatMap V.cells from hz)
      rw [hcl u hm] at hz
      exact List.mem_flatMap.2 ⟨u, hm, hz⟩
    · exact ⟨ys.toArray, rfl, by simpa using hl, fun i v x hv hx => (hsh i v x hv (by simpa using hx)).1⟩
    · intro j u y hju hjy
      obtain ⟨k, i, v, e1, e2, e3⟩ := flat_pos V.cells us j u hju
      obtain ⟨x, hx⟩ := exists_getElem? (l := ys) (i := k) (by have := lt_of_getElem? e1; omega)
      have hil := lt_of_getElem? e2
      rw [hcnt k v x e1 hx] at hil
      obtain ⟨z, hz⟩ := exists_getElem? hil
      have h5 := flat_at vcells hx hz
      rw [← hoff, ← e3] at h5
      have hy2 : (ys.flatMap vcells)[j]? = some y := by simpa [vleaves] using hjy
      rw [hy2] at h5; cases h5
      refine ⟨k, i, v, x, e1, hx, by rw [← hcl v (List.mem_of_getElem? e1)]; exact e2, by rw [← (hsh k v x e1 hx).2]; exact hz, fun _ => ?_⟩
      simp only [packHome, List.length_nil, Nat.add_zero]
      rw [if_pos (by omega), Nat.add_sub_cancel_left, e3]
    · intro u hm
      obtain ⟨v, hv, hz⟩ := List.mem_flatMap.1 (show u ∈ us.flatMap V.cells from hm)
      exact ⟨v, hv, by rw [← hcl v hv]; exact hz⟩
    · intro s i h
      simp only [List.length_nil, Nat.add_zero] at h
      simp only [packHome]; rw [if_neg (by omega)]
    · intro o i; rfl
theorem ren_zero {f : Nat → Option Nat} {u u' : V} (h : V.ren f (zero1 u) = some u') : zero1 u' = u' := by
  cases u <;> simp only [zero1, V.ren, Option.some.injEq, reduceCtorEq, Option.map_eq_some_iff] at h <;> first
    | (subst h; rfl)
    | (obtain ⟨_, _, rfl⟩ := h; rfl)
theorem Grow.sub {ids : List Nat} {N : Nat} (hids : ids.take base = List.range base) : Grow base E H (E.sub ids N) H := by
  refine ⟨Nat.le_refl _, fun b i h => ⟨Env.sub_imm h, rfl⟩, fun b _ h => ⟨by simp only [Env.sub, h, subTag], rfl⟩, fun b h => ⟨by simp only [Env.sub, h, subTag], rfl⟩, fun b m h => ⟨by simp only [Env.sub, h, subTag], rfl⟩, fun o ho => ?_⟩
  have : ids[o]? = some o := by
    have h1 : (ids.take base)[o]? = some o := by rw [hids]; simp [ho]
    rw [List.getElem?_take_of_lt ho] at h1; exact h1
  simp only [Env.sub, List.getD_eq_getElem?_getD, this, Option.getD_some]
theorem finish_sound {fn : Func} {vf : VFunc} {r : V} {os : List Obj} (hres : fn.results.toList.mapM (cRes P) = some vf.results) (hn : vf.ntmps = n) (hC : CoreS n E σ [] a.tmps.toList [] w.heap) (hf : finish vf base σ = some (r, os)) :
    ∃ x E', (results fn a.tmps).run P w = .ok x w ∧ Core 0 E' [r] (os.map some) [x] w.heap ∧ Grow base E w.heap E' w.heap ∧ ∀ (k : Nat) (cs : List V), os[k]? = some (.cells cs) → ∀ u ∈ cs, zero1 u = u := by
  unfold finish at hf
  split at hf
  · rename_i σ' hrun
    split at hf
    · rename_i ids hids
      split at hf
      · rename_i hcnd
        obtain ⟨hnd, htake⟩ := hcnd
        split at hf
        · rename_i r' os' hren hos
          cases hf
          subst hn
          have hC1 := hC.extend
          -- the act with one slot more
          let a1 : Act := { a with tmps := a.tmps.push undef }
          have ht1 : a1.tmps.toList = a.tmps.toList ++ [undef] := by simp [a1]
          rw [← ht1] at hC1
          unfold resProg at hrun
          obtain ⟨E1, σ1, us, ys, b1, b2, b3, b4, b5, b6, b7⟩ := getRess_sound (a := a1) (base := base) hres hC1 hrun
          simp only [List.nil_append] at b1
          obtain ⟨b3, hval⟩ := gTheres_run b3
          simp only [Prog.run, Option.some.injEq] at b3
          have hrs : σ'.slot vf.ntmps = packV us := by
            rw [← b3]
            have hlt : vf.ntmps < σ1.slots.length := by rw [b1.sl]; omega
            have : (σ1.setS vf.ntmps (packV us)).slot vf.ntmps = packV us := by
              simp only [St.setS, St.slot, List.getD_eq_getElem?_getD, List.getElem?_set_self hlt, Option.getD_some]
            rw [← this]
            cases us with
            | nil => rfl
            | cons u us => cases us <;> rfl
          have hobjs : σ'.objs = σ1.objs := by rw [← b3]; rfl
          rw [hrs] at hren
          obtain ⟨E2, c1, c2, c3⟩ := b1.pack (base := base) b7
          have hcore := c1.core
          have hrens : rens (findIdx ids) [packV us] = some [r] := by simp [rens, hren]
          have hmg := mapM_get hos
          obtain ⟨m1, m2⟩ := hmg
          have hobj : ∀ (k o : Nat), ids[k]? = some o → ∃ cs cs', σ1.objs[o]? = some (some (.cells cs)) ∧ os[k]? = some (.cells cs') ∧ rens (findIdx ids) (cs.map zero1) = some cs' := by
            intro k o ho
            obtain ⟨y, h1, h2⟩ := m2 k o ho
            obtain ⟨x, h3, h4⟩ := Option.bind_eq_some_iff.1 h1
            obtain ⟨cs, cs', rfl, rfl, h5⟩ := objRen_cells h4
            have h6 := obj_some h3
            rw [hobjs] at h6
            exact ⟨cs, cs', h6, h2, h5⟩
          have hsub := hcore.sub (ids := ids) (objs' := os.map some) (hs := [packV us]) (hs' := [r]) (by rw [c1.sl, c1.tl]) hnd (by simp [m1]) (fun k o ho => by
            obtain ⟨cs, cs', h1, h2, h3⟩ := hobj k o ho
            exact ⟨cs, cs', h1, by rw [List.getElem?_map, h2]; rfl, h3⟩) hrens (fun v hv u hu h g sz i off e => by
            simp only [List.mem_singleton] at hv
            subst hv
            obtain ⟨z, hz, hg⟩ := hval u (c3 u hu) h g sz i off e
            obtain ⟨d4, _⟩ := ct_real' (hs := [packV us]) c1.sl hz (by rintro g rfl; cases hg)
            exact ⟨z, d4, hg⟩)
          refine ⟨packX ys, _, ?_, hsub, (b2.trans c2).trans (Grow.sub htake), fun k cs hk u hu => ?_⟩
          · refine results_run b5 fun i rv y hrv hy => ?_
            have := b6 i rv y hrv hy
            -- a result's slot is a real one
            cases rv with
            | tmp t =>
              simp only [ResIs] at this ⊢
              rw [← this]
              simp only [a1, Array.getD_eq_getD_getElem?, Array.getElem?_push]
              split
              · rename_i e; subst e; simp
              · rfl
            | cell c t =>
              obtain ⟨ad, e1, e2⟩ := this
              refine ⟨ad, ?_, e2⟩
              rw [← e1]
              simp only [a1, Array.getD_eq_getD_getElem?, Array.getElem?_push]
              split
              · rename_i e; subst e; simp
              · rfl
          · obtain ⟨o, ho⟩ := exists_getElem? (l := ids) (i := k) (by have := lt_of_getElem? hk; omega)
            obtain ⟨cs0, cs', h1, h2, h3⟩ := hobj k o ho
            rw [hk] at h2; cases h2
            obtain ⟨i, hi⟩ := List.mem_iff_getElem?.1 hu
            obtain ⟨q1, q2⟩ := rens_get h3
            obtain ⟨u0, hu0⟩ := exists_getElem? (l := cs0.map zero1) (i := i) (by have := lt_of_getElem? hi; omega)
            have h4 := q2 i u0 u hu0 hi
            rw [List.getElem?_map] at hu0
            obtain ⟨u1, _, rfl⟩ := Option.map_eq_some_iff.1 hu0
            exact ren_zero h4
        · cases hf
      · cases hf
    · cases hf
  · cases hf
end
end Go.Vq
/- Every call does what the V-level machine says (no law of Go is stated here). -/
namespace Go.Vq
section
variable {n : Nat} {E : Env} {slots : List V} {objs : List (Option Obj)} {vals : List Value} {H : Array Go.Obj}
theorem Core.gones (hC : Core n E slots objs vals H) : ∀ m : Nat, Core n E (slots ++ List.replicate m (.gone 0)) objs (vals ++ List.replicate m undef) H
  | 0 => by simpa using hC
  | m + 1 => by
    have h := (hC.gones m).push (v := .gone 0) (x := undef) ⟨trivial, fun i u y hu _ => by
      cases i with
      | zero => simp [V.leaves] at hu; subst hu; trivial
      | succ i => simp [V.leaves] at hu⟩ (by intro r hr; simp [V.refs, V.leaves, V.refs1] at hr)
    rw [List.replicate_succ', List.replicate_succ', ← List.append_assoc, ← List.append_assoc]
    exact h
theorem nones_get {o m : Nat} {x : Obj} : (objs ++ List.replicate m none)[o]? = some (some x) ↔ objs[o]? = some (some x) := by
  rcases Nat.lt_or_ge o objs.length with h | h
  · rw [List.getElem?_append_left h]
  · rw [List.getElem?_append_right h, List.getElem?_eq_none h]
    constructor
    · intro h1
      rw [List.getElem?_replicate] at h1
      split at h1 <;> cases h1
    · intro h1; cases h1
theorem ct_nones {m : Nat} {h : Home} : ct slots (objs ++ List.replicate m none) h = ct slots objs h := by
  cases h with
  | slot => rfl
  | obj o i =>
    have h1 := @nones_get objs o m
    simp only [ct]
    cases hx : objs[o]? with
    | none =>
      cases hy : (objs ++ List.replicate m none)[o]? with
      | none => rfl
      | some y => cases y with
        | none => rfl
        | some y => rw [hy] at h1; have := (h1 (x := y)).1 rfl; rw [hx] at this; cases this
    | some x => cases x with
      | none =>
        cases hy : (objs ++ List.replicate m none)[o]? with
        | none => rfl
        | some y => cases y with
          | none => rfl
          | some y => rw [hy] at h1; have := (h1 (x := y)).1 rfl; rw [hx] at this; cases this
      | some x => rw [(h1 (x := x)).2 hx]
theorem Core.nones (hC : Core n E slots objs vals H) (m : Nat) : Core n E slots (objs ++ List.replicate m none) vals H := by
  have hal : ∀ o, alive objs o → alive (objs ++ List.replicate m none) o := fun o ⟨x, hx⟩ => ⟨x, nones_get.2 hx⟩
  have hmv : ∀ {h : Home} {u : V} {y : Value}, RelV E slots objs vals H h u y → RelV E slots (objs ++ List.replicate m none) vals H h u y := by
    intro h u y hR
    refine hR.move (fun _ _ h => ⟨h, rfl⟩) (fun _ b hb => ⟨hb, rfl⟩) (fun _ b k hb => ⟨hb, rfl⟩) (fun o _ h => ⟨rfl, hal o h⟩) (fun o _ _ _ h => ⟨rfl, hal o h⟩) fun r _ sz hv => ⟨?_, rfl⟩
    obtain ⟨w, h1, h2⟩ := hv
    rw [ct_nones] at h1
    exact ⟨w, h1, h2⟩
  refine ⟨hC.len, hC.real, fun s v x hv hx => ⟨(hC.slot s v x hv hx).1, fun i u y hu hy => hmv ((hC.slot s v x hv hx).2 i u y hu hy)⟩, fun o cs ho => ?_, hC.fresh, fun s v hv r hr => ?_⟩
  · obtain ⟨arr, T, f, g1, g2, g3, g4, g5, g6⟩ := hC.obj o cs (nones_get.1 ho)
    exact ⟨arr, T, f, g1, g2, g3, g4, fun i u y hu hy => hmv (g5 i u y hu hy), g6⟩
  · have := hC.refs s v hv r hr
    exact ⟨this.1, by rw [ct_nones]; exact this.2⟩
theorem Core.more {m : Nat} (hC : Core n E slots objs vals H) (h1 : n ≤ m) (h2 : m ≤ slots.length) : Core m E slots objs vals H :=
  ⟨hC.len, h2, hC.slot, hC.obj, hC.fresh, fun s v hv r hr => ⟨fun t i e => Nat.lt_of_lt_of_le ((hC.refs s v hv r hr).1 t i e) h1, (hC.refs s v hv r hr).2⟩⟩
theorem start_core {vf : VFunc} {args : List V} {os : List Obj} (hC : Core 0 E args (os.map some) vals H) (hl : args.length ≤ vf.ntmps) :
    CoreS vf.ntmps E (start vf args os) [] (vals ++ List.replicate (vf.ntmps - args.length) undef) [] H := by
  have hlen := hC.len
  refine ⟨by simp [start]; omega, by simp [← hlen]; omega, ?_⟩
  simp only [List.append_nil]
  exact ((hC.gones _).nones _).more (Nat.zero_le _) (by simp; omega)
end
theorem finish_zero {vf : VFunc} {base : Nat} {σ : St} {r : V} {os : List Obj} (hf : finish vf base σ = some (r, os)) (k : Nat) (cs : List V) (hk : os[k]? = some (.cells cs)) : ∀ u ∈ cs, zero1 u = u := by
  intro u hu
  unfold finish at hf
  split at hf
  · split at hf
    · rename_i ids hids
      split at hf
      · split at hf
        · rename_i r' os' hren hos
          cases hf
          obtain ⟨m1, m2⟩ := mapM_get hos
          obtain ⟨o, ho⟩ := exists_getElem? (l := ids) (i := k) (by have := lt_of_getElem? hk; omega)
          obtain ⟨y, h1, h2⟩ := m2 k o ho
          rw [hk] at h2; cases h2
          obtain ⟨x, h3, h4⟩ := Option.bind_eq_some_iff.1 h1
          obtain ⟨cs0, cs', rfl, e, h5⟩ := objRen_cells h4
          cases e
          obtain ⟨i, hi⟩ := List.mem_iff_getElem?.1 hu
          obtain ⟨q1, q2⟩ := rens_get h5
          obtain ⟨u0, hu0⟩ := exists_getElem? (l := cs0.map zero1) (i := i) (by have := lt_of_getElem? hi; omega)
          have h6 := q2 i u0 u hu0 hi
          rw [List.getElem?_map] at hu0
          obtain ⟨u1, _, rfl⟩ := Option.map_eq_some_iff.1 hu0
          exact ren_zero h6
        · cases hf
      · cases hf
    · cases hf
  · cases hf
/-- A V-level program that says what the model's functions do. -/
structure GOk (P : Program) (G : VProg) : Prop where
  code : ∀ f vf, G f = some (.code vf) → ∃ fn, P.funcs[f]? = some fn ∧ cFunc P fn = some vf.strip ∧ (fn.name == "runtime.NumGoroutine") = false
  prim : ∀ f run, G f = some (.prim run) → ∀ args objs r os, run args objs = some (r, os) → EnterOk P f ∧ Behaves P f args objs r os
theorem call_sound {P : Program} {G : VProg} (hG : GOk P G) : ∀ M : Nat, CalleeOk P (call G M) := by
  intro M
  induction M using Nat.strongRecOn with
  | _ M ih =>
    intro f args objs r os hcall
    unfold call callWith at hcall
    split at hcall
    · rename_i vf hf
      obtain ⟨fn, h1, h2, h3⟩ := hG.code f vf hf
      unfold cFunc at h2
      simp only [Option.bind_eq_bind, Option.pure_def] at h2
      obtain ⟨c, hb, h2⟩ := Option.bind_eq_some_iff.1 h2
      obtain ⟨⟨m, body⟩, hcc, h2⟩ := Option.bind_eq_some_iff.1 h2
      obtain ⟨res, hres, h2⟩ := Option.bind_eq_some_iff.1 h2
      simp only [Option.some.injEq] at h2
      have e1 : vf.ntmps = fn.ntmps := by have := congrArg VFunc.ntmps h2; simpa [VFunc.strip] using this.symm
      have e2 : vf.results = res := by have := congrArg VFunc.results h2; simpa [VFunc.strip] using this.symm
      have e3 : body = vf.body.strip := by have := congrArg VFunc.body h2; simpa [VFunc.strip] using this
      subst e2 e3
      split at hcall
      · rename_i hargs
        obtain ⟨hna, hnt⟩ := hargs
        have hfin : ∃ out σ', exec G M objs.length vf.body (start vf args objs) = some (out, σ') ∧ (out = .normal ∨ out = .ret) ∧ finish vf objs.length σ' = some (r, os) := by
          split at hcall
          · exact ⟨_, _, by assumption, .inl rfl, hcall⟩
          · exact ⟨_, _, by assumption, .inr rfl, hcall⟩
          · cases hcall
        obtain ⟨out, σ', hexec, hout, hfin⟩ := hfin
        have hent : EnterOk P f := ⟨fn, h1, by rw [hb]; rfl, h3⟩
        cases M with
        | zero => simp only [exec] at hexec; cases hexec
        | succ k =>
          simp only [exec] at hexec
          change step (call G k) objs.length (exec G k objs.length) vf.body (start vf args objs) = some (out, σ') at hexec
          have hcallee : ∀ j, j ≤ k → CalleeOk P (call G j) := fun j hj => ih j (by omega)
          refine ⟨hent, finish_zero hfin, fun E vals w hcore => ?_⟩
          have hst := start_core (vf := vf) hcore (by omega)
          have hlen := hcore.len
          refine calls_of_wp h1 hb ?_
          have htm : (vals.toArray ++ Array.replicate (fn.ntmps - vals.toArray.size) undef).toList = vals ++ List.replicate (vf.ntmps - args.length) undef := by simp [e1, hlen]
          rw [← htm] at hst
          refine code_sound (base := objs.length) (Q := bodyPost P fn (RetOk objs.length E w r os)) hcallee c hcc (Nat.le_refl _) (a := { tmps := vals.toArray ++ Array.replicate (fn.ntmps - vals.toArray.size) undef, defers := [] }) hexec hst fun E1 a1 w1 c1 c2 c3 c4 => ?_
          obtain ⟨x, E2, d1, d2, d3, _⟩ := finish_sound (base := objs.length) hres rfl c1 hfin
          have : a1.defers = [] ∧ ∃ v, (results fn a1.tmps).run P w1 = .ok v w1 ∧ RetOk objs.length E w r os (.returned v) w1 := ⟨c4, x, d1, E2, d2, c2.trans d3, c3⟩
          rcases hout with rfl | rfl <;> exact this
      · cases hcall
    · rename_i run hf
      exact hG.prim f run hf args objs r os hcall
    · cases hcall
end Go.Vq
/- A V-level program out of a program of the model's (no law of Go is stated here). -/
namespace Go.Vq
/-- What is kept at each loop's head, in the order in which the loops stand. -/
def VCode.keep : VCode → List (List Nat) → VCode × List (List Nat)
  | .seq a b, ks => let r := a.keep ks; let q := b.keep r.2; (.seq r.1 q.1, q.2)
  | .cond c a b, ks => let r := a.keep ks; let q := b.keep r.2; (.cond c r.1 q.1, q.2)
  | .block i a, ks => let r := a.keep ks; (.block i r.1, r.2)
  | .loop k a, [] => (.loop k a, [])
  | .loop _ a, k :: ks => let r := a.keep ks; (.loop (some k) r.1, r.2)
  | c, ks => (c, ks)
def VOper.setAp (ap : FuncId → Bool) (o : VOper) : VOper := match o.op with
  | .call _ f s as => { o with op := .call (ap f) f s as }
  | _ => o
/-- Which calls hang on nothing that they are given. -/
def VCode.setAp (ap : FuncId → Bool) : VCode → VCode
  | .region ops d => .region (ops.map (VOper.setAp ap)) d
  | .seq a b => .seq (a.setAp ap) (b.setAp ap)
  | .cond c a b => .cond c (a.setAp ap) (b.setAp ap)
  | .block i a => .block i (a.setAp ap)
  | .loop k a => .loop k (a.setAp ap)
  | c => c
theorem keep_strip : ∀ (c : VCode) (ks : List (List Nat)), (c.keep ks).1.strip = c.strip
  | .skip, ks => by cases ks <;> rfl
  | .region .., ks => by cases ks <;> rfl
  | .seq a b, ks => by simp only [VCode.keep, VCode.strip, keep_strip a, keep_strip b]
  | .cond c a b, ks => by simp only [VCode.keep, VCode.strip, keep_strip a, keep_strip b]
  | .block i a, ks => by simp only [VCode.keep, VCode.strip, keep_strip a]
  | .loop k a, [] => rfl
  | .loop _ a, k :: ks => by simp only [VCode.keep, VCode.strip, keep_strip a]
  | .exit .., ks => by cases ks <;> rfl
  | .ret, ks => by cases ks <;> rfl
theorem setAp_oper (ap : FuncId → Bool) (o : VOper) : (o.setAp ap).strip = o.strip := by
  unfold VOper.setAp
  split
  · rename_i h; simp only [VOper.strip, h, VOp.strip]
  · rfl
theorem setAp_strip (ap : FuncId → Bool) : ∀ c : VCode, (c.setAp ap).strip = c.strip
  | .skip => rfl
  | .region ops d => by
    simp only [VCode.setAp, VCode.strip, List.map_map]
    congr 1
    exact List.map_congr_left fun o _ => setAp_oper ap o
  | .seq a b => by simp only [VCode.setAp, VCode.strip, setAp_strip ap a, setAp_strip ap b]
  | .cond c a b => by simp only [VCode.setAp, VCode.strip, setAp_strip ap a, setAp_strip ap b]
  | .block i a => by simp only [VCode.setAp, VCode.strip, setAp_strip ap a]
  | .loop k a => by simp only [VCode.setAp, VCode.strip, setAp_strip ap a]
  | .exit .. => rfl
  | .ret => rfl
section
variable {P : Program}
theorem strip_strip (v : VOp) : v.strip.strip = v.strip := by cases v <;> rfl
theorem cOps_strip {all : Array Oper} : ∀ {os : List Oper} {vs : List VOper} {site m : Nat} {done : List Nat}, cOps P all site done os = some (m, vs) → vs.map VOper.strip = vs
  | [], vs, site, m, done, h => by simp only [cOps, Option.some.injEq, Prod.mk.injEq] at h; obtain ⟨_, rfl⟩ := h; rfl
  | o :: os, vs, site, m, done, h => by
    simp only [cOps, Option.bind_eq_bind, Option.pure_def] at h
    obtain ⟨op, hop, h⟩ := Option.bind_eq_some_iff.1 h
    obtain ⟨g, hg, h⟩ := Option.bind_eq_some_iff.1 h
    split at h
    · cases h
    · obtain ⟨⟨m', rest⟩, hrest, h⟩ := Option.bind_eq_some_iff.1 h
      simp only [Option.some.injEq, Prod.mk.injEq] at h
      obtain ⟨_, rfl⟩ := h
      simp only [List.map_cons, cOps_strip hrest, VOper.strip, strip_strip]
theorem cCode_strip : ∀ (c : Code) {site m : Nat} {v : VCode}, cCode P site c = some (m, v) → v.strip = v
  | .skip, site, m, v, h => by simp only [cCode, Option.some.injEq, Prod.mk.injEq] at h; obtain ⟨_, rfl⟩ := h; rfl
  | .region id ops draw, site, m, v, h => by
    simp only [cCode, Option.bind_eq_bind, Option.pure_def] at h
    obtain ⟨⟨m1, l1⟩, h1, h⟩ := Option.bind_eq_some_iff.1 h
    split at h
    · cases h
    cases h
    simp only [VCode.strip, cOps_strip h1]
  | .seq x y, site, m, v, h => by
    simp only [cCode, Option.bind_eq_bind, Option.pure_def] at h
    obtain ⟨⟨m1, l1⟩, h1, h⟩ := Option.bind_eq_some_iff.1 h
    obtain ⟨⟨m2, l2⟩, h2, h⟩ := Option.bind_eq_some_iff.1 h
    cases h
    simp only [VCode.strip, cCode_strip x h1, cCode_strip y h2]
  | .cond c x y, site, m, v, h => by
    simp only [cCode, Option.bind_eq_bind, Option.pure_def] at h
    obtain ⟨c', _, h⟩ := Option.bind_eq_some_iff.1 h
    obtain ⟨⟨m1, l1⟩, h1, h⟩ := Option.bind_eq_some_iff.1 h
    obtain ⟨⟨m2, l2⟩, h2, h⟩ := Option.bind_eq_some_iff.1 h
    cases h
    simp only [VCode.strip, cCode_strip x h1, cCode_strip y h2]
  | .block id x, site, m, v, h => by
    simp only [cCode, Option.bind_eq_bind, Option.pure_def] at h
    obtain ⟨⟨m1, l1⟩, h1, h⟩ := Option.bind_eq_some_iff.1 h
    cases h
    simp only [VCode.strip, cCode_strip x h1]
  | .loop x, site, m, v, h => by
    simp only [cCode, Option.bind_eq_bind, Option.pure_def] at h
    obtain ⟨⟨m1, l1⟩, h1, h⟩ := Option.bind_eq_some_iff.1 h
    cases h
    simp only [VCode.strip, cCode_strip x h1]
  | .scope x, site, m, v, h => by simp only [cCode] at h; exact cCode_strip x h
  | .exit id, site, m, v, h => by simp only [cCode, Option.some.injEq, Prod.mk.injEq] at h; obtain ⟨_, rfl⟩ := h; rfl
  | .ret, site, m, v, h => by simp only [cCode, Option.some.injEq, Prod.mk.injEq] at h; obtain ⟨_, rfl⟩ := h; rfl
  | .rangeFunc .., _, _, _, h => by cases h
  | .label .., _, _, _, h => by cases h
  | .goto .., _, _, _, h => by cases h
  | .refuse .., _, _, _, h => by cases h
theorem cFunc_strip {fn : Func} {v : VFunc} (h : cFunc P fn = some v) : v.strip = v := by
  unfold cFunc at h
  simp only [Option.bind_eq_bind, Option.pure_def] at h
  obtain ⟨c, hb, h⟩ := Option.bind_eq_some_iff.1 h
  obtain ⟨⟨m, body⟩, hcc, h⟩ := Option.bind_eq_some_iff.1 h
  obtain ⟨res, hres, h⟩ := Option.bind_eq_some_iff.1 h
  cases h
  simp only [VFunc.strip, cCode_strip c hcc]
end
/-- What a function does that is taken by its law. -/
abbrev Prim := List V → List Obj → Option (V × List Obj)
/-- A function's code with its annotations. -/
def VFunc.ann (ap : FuncId → Bool) (ks : List (List Nat)) (v : VFunc) : VFunc := { v with body := ((v.body.setAp ap).keep ks).1 }
/-- A program of the model's, read: 'ap': which functions' results hang on nothing; 'keeps': what is kept at the loops' heads; 'prims': functions that are taken by their laws. -/
def vprog (P : Program) (ap : FuncId → Bool) (keeps : FuncId → List (List Nat)) (prims : FuncId → Option Prim) : VProg := fun f =>
  match prims f with
  | some run => some (.prim run)
  | none => match P.funcs[f]? with
    | some fn => if (fn.name == "runtime.NumGoroutine") = true then none else (cFunc P fn).map fun v => .code (v.ann ap (keeps f))
    | none => none
def PrimsOk (P : Program) (prims : FuncId → Option Prim) : Prop := ∀ f run, prims f = some run → ∀ args objs r os, run args objs = some (r, os) → EnterOk P f ∧ Behaves P f args objs r os
theorem vprog_ok {P : Program} {ap : FuncId → Bool} {keeps : FuncId → List (List Nat)} {prims : FuncId → Option Prim} (hp : PrimsOk P prims) : GOk P (vprog P ap keeps prims) := by
  refine ⟨fun f vf h => ?_, fun f run h => ?_⟩
  · unfold vprog at h
    split at h
    · cases h
    · split at h
      · rename_i fn hfn
        split at h
        · cases h
        · rename_i hname
          obtain ⟨v, hv, e⟩ := Option.map_eq_some_iff.1 h
          cases e
          refine ⟨fn, hfn, ?_, by simpa using hname⟩
          rw [hv]
          have := cFunc_strip hv
          simp only [VFunc.strip, VFunc.ann] at this ⊢
          rw [keep_strip, setAp_strip]
          exact congrArg some this.symm
      · cases h
  · unfold vprog at h
    split at h
    · rename_i run' hrun
      cases h
      exact hp f run hrun
    · split at h
      · split at h
        · cases h
        · obtain ⟨v, _, e⟩ := Option.map_eq_some_iff.1 h
          cases e
      · cases h
end Go.Vq
/- A copy of a slice by the library's Clone (no law of Go is stated here). -/
namespace Go.Vq
/-- The text of slices.Clone at a slice's type T (B: bool). -/
def cloneBody (T B : TypeId) : Code :=
  (Code.region 0 #[{ dst := some 2, op := Op.assign (Operand.const (Value.slice none 0 0)), type := T, pos := "slices.go:355", after := #[], guard := none }] false).seq
    (((Code.region 1 #[{ dst := some 3, op := Op.move (Operand.tmp 0), type := T, pos := "slices.go:357", after := #[], guard := none },
          { dst := some 4, op := Op.binOp BinOp.eql T (Operand.tmp 3) (Operand.const (Value.slice none 0 0)) T, type := B, pos := "slices.go:357", after := #[{ on := 0, ground := Ground.data }], guard := none }] false).seq
        (Code.cond (Operand.tmp 4)
          ((Code.region 2 #[{ dst := some 2, op := Op.assign (Operand.const (Value.slice none 0 0)), type := T, pos := "slices.go:358", after := #[], guard := none }] false).seq Code.ret)
          Code.skip)).seq
      ((Code.region 3 #[{ dst := some 5, op := Op.buildSlice T 0 #[], type := T, pos := "slices.go:362", after := #[], guard := none },
          { dst := some 6, op := Op.move (Operand.tmp 0), type := T, pos := "slices.go:362", after := #[], guard := none },
          { dst := some 7, op := Op.call { callee := Callee.builtin Builtin.append, args := #[Operand.tmp 5, Operand.tmp 6], argTypes := #[T, T] }, type := T, pos := "slices.go:362",
            after := #[{ on := 0, ground := Ground.data }, { on := 1, ground := Ground.data }], guard := none },
          { dst := some 2, op := Op.assign (Operand.tmp 7), type := T, pos := "slices.go:362",
            after := #[{ on := 2, ground := Ground.data }, { on := 2, ground := Ground.chain }, { on := 0, ground := Ground.phase }, { on := 1, ground := Ground.phase }, { on := 2, ground := Ground.phase }], guard := none }] false).seq
        Code.ret))
/-- What it comes to: elements of so many bytes. -/
def clonePrim (sz bytes : Nat) : Prim := fun args objs =>
  match args, objs with
  | [.isl _ sz' es], [] => if sz' = sz ∧ es.length * bytes ≤ 140737488355328 then some (.xsl 0 sz es, []) else none
  | _, _ => none
section
variable {P : Program}
theorem wpOps_cons {ops : Array Oper} {Q : Exit → Act → World → Prop} {i : Nat} {rest : List Nat} {a : Act} {w w' : World} {o : Oper} {v : Value} (ho : ops[i]? = some o) (hg : o.guard = none) (hr : (execOp a.eval o).run P w = .ok (.value v) w') (hn : wpOps P ops Q rest (a.put o.dst v) w') : wpOps P ops Q (i :: rest) a w := by
  simp only [wpOps, ho]
  rw [if_pos (by simp [Region.wanted, hg])]
  left
  unfold Oper.wp
  rw [hr]
  exact hn
abbrev act8 (a b c d e f g h : Value) : Act := ⟨#[a, b, c, d, e, f, g, h], []⟩
theorem clone_eq {T e : TypeId} (hT : under P T = some (.slice e)) (a : Option Addr) (l c : Nat) (ox oy : Operand) (w : World) : (do eqGuard BinOp.eql T ox oy (Value.slice a l c) (Value.slice none 0 0); binOp BinOp.eql T (Value.slice a l c) (Value.slice none 0 0) : Sem Value).run P w = .ok (.bool a.isNone) w := by
  have := (EqRun.of_equal (P := P) (w := w) (t := T) (x := .slice a l c) (y := .slice none 0 0) (r := a.isNone) (run_equal_slice_nil w T e _ _ _ hT) (.inl ⟨rfl, by simp⟩) fun op => ⟨fun e => by subst e; rfl, fun e => by subst e; rfl⟩)
  exact (this ox oy).1
theorem clone_walk {f : FuncId} {fn : Func} {T B e : TypeId} {sz bytes : Nat} (h1 : P.funcs[f]? = some fn) (h2 : fn.body = some (cloneBody T B)) (h3 : fn.ntmps = 8) (h4 : fn.results = #[.tmp 2]) (hT : AppT P T T e sz bytes)
    {E : Env} {w : World} {es : List V} {x : Value} (hC : CoreS 0 E ⟨[], []⟩ [] [] [] w.heap) (hx : RelI E.imm w.heap (.isl 0 sz es) x) (hbig : es.length * bytes ≤ 140737488355328) :
    Calls P f #[x] w (RetOk 0 E w (.xsl 0 sz es) []) := by
  obtain ⟨a, cap, hw, hi⟩ := View.of_isl hx
  have hxe := hw.eq
  subst hxe
  refine calls_of_wp h1 h2 ?_
  rw [h3]
  change Code.wp P (cloneBody T B) _ (act8 (.slice a es.length cap) undef undef undef undef undef undef undef) w
  have hret : ∀ {y : Value} {w' : World} {t3 t4 t5 t6 t7 : Value}, RetOk 0 E w (.xsl 0 sz es) [] (.returned y) w' → bodyPost P fn (RetOk 0 E w (.xsl 0 sz es) []) .ret (act8 (.slice a es.length cap) undef y t3 t4 t5 t6 t7) w' := by
    intro y w' t3 t4 t5 t6 t7 h
    refine ⟨rfl, y, ?_, h⟩
    have := results_run (P := P) (w := w') (fn := fn) (tmps := #[.slice a es.length cap, undef, y, t3, t4, t5, t6, t7]) (ys := [y]) (by rw [h4]; rfl) (fun i r z hr hz => by
      rw [h4] at hr
      cases i with
      | succ i => simp at hr
      | zero => simp at hr hz; subst hr hz; rfl)
    exact this
  unfold cloneBody
  refine wp_seq (wp_region ?_)
  refine wpOps_cons (v := .slice none 0 0) (w' := w) rfl rfl rfl ?_
  change Code.wp P _ _ (act8 (.slice a es.length cap) undef (.slice none 0 0) undef undef undef undef undef) w
  refine wp_seq (wp_seq (wp_region ?_))
  refine wpOps_cons (v := .slice a es.length cap) (w' := w) rfl rfl rfl ?_
  refine wpOps_cons (v := .bool a.isNone) (w' := w) rfl rfl ?_ ?_
  · have := clone_eq hT.ht a es.length cap (Operand.tmp 3) (Operand.const (Value.slice none 0 0)) w
    change ((do let v ← (do eqGuard BinOp.eql T (Operand.tmp 3) (Operand.const (Value.slice none 0 0)) (Value.slice a es.length cap) (Value.slice none 0 0); binOp BinOp.eql T (Value.slice a es.length cap) (Value.slice none 0 0)); pure (Next.value v) : Sem Next)).run P w = _
    rw [Sem.run_bind, this]; rfl
  change Code.wp P _ _ (act8 (.slice a es.length cap) undef (.slice none 0 0) (.slice a es.length cap) (.bool a.isNone) undef undef undef) w
  cases a with
  | none =>
    have h0 : es = [] := by
      have := hw.nil rfl
      have := hw.le
      exact List.eq_nil_of_length_eq_zero (by omega)
    subst h0
    refine wp_cond_true rfl (wp_seq (wp_region ?_))
    refine wpOps_cons (v := .slice none 0 0) (w' := w) rfl rfl rfl ?_
    change Code.wp P Code.ret _ (act8 (.slice none 0 cap) undef (.slice none 0 0) (.slice none 0 cap) (.bool true) undef undef undef) w
    refine wp_ret (hret ⟨E, ?_, Grow.refl _ _ _, WSame.refl _⟩)
    have := hC.pushOwn (tail := false) (g := 0) (sz := sz) (es := []) (a := none) (cap := 0) ⟨Nat.le_refl _, fun _ => rfl, fun _ h => (by cases h), fun h => absurd rfl h, Elems.nil _ _ _ _⟩
    exact this.core
  | some ad =>
    refine wp_cond_false rfl (wp_skip ?_)
    change Code.wp P _ _ (act8 (.slice (some ad) es.length cap) undef (.slice none 0 0) (.slice (some ad) es.length cap) (.bool false) undef undef undef) w
    -- the empty slice
    obtain ⟨E1, hC1, hG1⟩ := hC.newOwn (base := 0) (tail := false) (g := 0) (sz := sz) (cap := 0) (es := []) (arr := #[]) (T := e) (f := (0, 0)) (Nat.le_refl _) (by simp) (open_00 _) ⟨fun e h => by simp at h, fun i e j v h => by simp at h⟩
    obtain ⟨news, hsrc⟩ := View.src (P := P) (H := (w.alloc (.cells #[] e)).heap) (imm := E1.imm) (sz := sz) (es := es) (x := .slice (some ad) es.length cap) (a := some ad) (cap := cap) ⟨rfl, hw.le, hw.nil, hw.spot, hw.elems.1, fun i e0 j v h5 h6 => by
      obtain ⟨ad', y, g1, g2, g3⟩ := hw.elems.2 i e0 j v h5 h6
      cases g1
      have himm := hi ad i e0 j rfl h5 (lt_of_getElem? h6)
      have := hG1.imm _ _ himm
      exact ⟨ad, y, rfl, this.2.trans g2, g3.mono hG1.imm⟩⟩
    obtain ⟨E2, w2, y, hrun, hC2, hG2, hW2⟩ := append_own (P := P) (base := 0) (ty := T) (w := w.alloc (.cells #[] e)) (tail := false) (g := 0) (es := []) (fs := es) hT hC1 hsrc (by simpa using hbig)
    refine wp_seq (wp_region ?_)
    refine wpOps_cons (v := .slice (some ⟨w.heap.size, 0, none⟩) 0 0) (w' := w.alloc (.cells #[] e)) rfl rfl ?_ ?_
    · obtain ⟨zs, hz, hzl⟩ := hT.hz
      simp [execOp, Instr.buildSlice, run_under hT.ht, run_size hT.hs, Instr.fill, Go.newRow, show Array.range 0 = #[] from rfl]
    refine wpOps_cons (v := .slice (some ad) es.length cap) rfl rfl rfl ?_
    refine wpOps_cons (v := y) (w' := w2) rfl rfl ?_ ?_
    · rw [builtin_run (c := { callee := Callee.builtin Builtin.append, args := #[Operand.tmp 5, Operand.tmp 6], argTypes := #[T, T] }) (b := .append) rfl rfl]
      simp only [builtin, List.map_toArray, List.map_cons, List.map_nil, Sem.run_bind]
      change ((Builtin.append_ #[T, T] T #[.slice (some ⟨w.heap.size, 0, none⟩) 0 0, .slice (some ad) es.length cap]).run P (w.alloc (.cells #[] e))).andThen _ = _
      have : (Builtin.append_ #[T, T] T #[.slice (some ⟨w.heap.size, 0, none⟩) 0 0, .slice (some ad) es.length cap]).run P (w.alloc (.cells #[] e)) = .ok y w2 := hrun
      rw [this]; rfl
    refine wpOps_cons (v := y) (w' := w2) rfl rfl rfl ?_
    refine wp_ret ?_
    refine hret (t3 := .slice (some ad) es.length cap) (t4 := .bool false) (t5 := .slice (some ⟨w.heap.size, 0, none⟩) 0 0) (t6 := .slice (some ad) es.length cap) (t7 := y) ⟨E2, ?_, hG1.trans hG2, ⟨hW2.os, hW2.output, hW2.tape⟩⟩
    have := hC2.core
    rw [List.nil_append] at this
    exact this
theorem clone_ok {f : FuncId} {fn : Func} {T B e : TypeId} {sz bytes : Nat} (h1 : P.funcs[f]? = some fn) (h2 : fn.body = some (cloneBody T B)) (h3 : fn.ntmps = 8) (h4 : fn.results = #[.tmp 2]) (h5 : (fn.name == "runtime.NumGoroutine") = false) (hT : AppT P T T e sz bytes) :
    ∀ args objs r os, clonePrim sz bytes args objs = some (r, os) → EnterOk P f ∧ Behaves P f args objs r os := by
  intro args objs r os h
  unfold clonePrim at h
  split at h
  · rename_i g sz' es
    split at h
    · rename_i hc
      obtain ⟨rfl, hbig⟩ := hc
      cases h
      refine ⟨⟨fn, h1, by rw [h2]; rfl, h5⟩, fun k cs hk => by simp at hk, fun E vals w hC => ?_⟩
      have hl := hC.len
      cases vals with
      | nil => simp at hl
      | cons x vals =>
        cases vals with
        | cons y vals => simp at hl
        | nil =>
          have hx := (hC.slot 0 _ x rfl rfl).2 0 (.isl g sz' es) x rfl (by
            have := leaf_shape (v := .isl g sz' es) rfl (fun g => by simp) (hC.slot 0 _ x rfl rfl).1
            rw [vleaves_leaf this]; rfl)
          have hx' : RelI E.imm w.heap (.isl 0 sz' es) x := by
            obtain ⟨a, cap, hw, hi⟩ := View.of_isl hx
            exact isl_of_view hw hi
          refine clone_walk h1 h2 h3 h4 hT ⟨rfl, rfl, ⟨rfl, Nat.le_refl _, fun s v x h => by simp at h, fun o cs h => by simp at h, hC.fresh, fun s v h => by simp at h⟩⟩ hx' hbig
    · cases h
  · cases h
end
end Go.Vq
/- A law without input: what the V-level machine says of it is what the program does (no law of Go is stated here). -/
namespace Go.Vq
/-- The world as it is found: all that stands there is fixed. -/
def env0 (H : Array Go.Obj) : Env := { tag := fun b => if b < H.size then .imm else .other, addr := fun _ => 0 }
theorem core0 (H : Array Go.Obj) : Core 0 (env0 H) [] [] [] H where
  len := rfl
  real := Nat.zero_le _
  slot := fun s v x h _ => by simp at h
  obj := fun o cs h => by simp at h
  fresh := fun b hb => by unfold env0; simp only; rw [if_neg (by omega)]
  refs := fun s v h => by simp at h
/-- Of what stood there nothing has turned. -/
structure Still (W w' : World) : Prop where
  kept : W.keptBut w' fun _ => False
  froz : ∀ a : Addr, a.block < W.heap.size → w'.frozen? a = W.frozen? a
theorem still_of {w w' : World} {E' : Env} (h : Grow 0 (env0 w.heap) w.heap E' w'.heap) (hs : WSame w w') : Still w w' := by
  have hold : ∀ b, b < w.heap.size → w'.heap[b]? = w.heap[b]? := fun b hb => (h.immT b (by unfold env0; simp only; rw [if_pos hb])).2
  refine ⟨⟨hs.os, hs.output, fun i hi => ?_⟩, fun a ha => ?_⟩
  · rw [hold i hi]
    cases hx : w.heap[i]? with
    | none => rfl
    | some o => cases o with
      | cells c t fr => exact ⟨rfl, rfl, rfl, fun _ _ => rfl⟩
      | map es cl => exact .inr ⟨rfl, rfl⟩
      | _ => rfl
  · unfold World.frozen?
    rw [hold _ ha]
theorem true_walk {P : Program} {G : VProg} (hG : GOk P G) {f : FuncId} {M : Nat} (h : call G M f [] [] = some (.bool true, [])) (w : World) :
    Calls P f #[] w fun e w' => e = .returned (.bool true) ∧ Still w w' := by
  have hb := (call_sound hG M f [] [] _ _ h).2.2 (env0 w.heap) [] w (core0 w.heap)
  refine hb.mono fun e w' he => ?_
  cases e with
  | returned x =>
    obtain ⟨E', hC, hg, hs⟩ := he
    have := slot_toVal (hC.slot 0 _ x rfl rfl) (y := .bool true) rfl
    exact ⟨by rw [this], still_of hg hs⟩
  | _ => exact he.elim
open Go.WideShapes Go.ChangeShapes in
/-- The row's end, where what stood there stands as it stood. -/
theorem post_still {H : Type} {enc : TypeId × Value → H} {P : Program} {f : Func} {s : ChangeSpec} {apart fresh handsOn again : Bool} {W W' : World} {args : Array Value} {v : Value} {ds gs : List (DataW H)} {before pa pv : List MemPlace}
    (hW : DataW.Whole enc P f.params.toList s.vars apart W args.toList ds gs before)
    (hres : ∀ (b : Nat) (sp : Nat → Bool) (hd : Bool), DataW.TrodAll enc P W' b sp hd f.resultTypes.toList (v.resultList f.resultTypes.size) (s.fn H (ds ++ gs)).results [])
    (hargs : ∀ sp : Nat → Bool, (∀ p ∈ before, sp p.block = true) → DataW.TrodAll enc P W' 0 sp true f.params.toList args.toList (s.fn H (ds ++ gs)).args pa)
    (hvars : ∀ sp : Nat → Bool, (∀ p ∈ before, sp p.block = true) → DataW.TrodVars enc P W' sp s.vars (s.fn H (ds ++ gs)).vars pv)
    (hps : before = pa ++ pv) (hS : Still W W')
    (hok : ∀ (j : Nat) (t : TypeId) (r : Value), f.resultTypes[j]? = some t → (v.resultList f.resultTypes.size)[j]? = some r → Value.okWide P W' .any 0 t r) :
    s.post enc P f apart fresh handsOn again W args v W' := by
  have hlt := hW.lt
  obtain ⟨_, _, _, _, _, hz, hn⟩ := id hW
  refine ⟨ds, gs, before, [], pa, pv, hW, hres _ _ _, hargs _ fun p hp => ?_, hvars _ fun p hp => ?_, World.keptBut_mono (fun p hp => hp.elim) hS.kept, fun _ => ⟨hok, _, _, ([] ++ pa) ++ pv, ⟨[] ++ pa, pv, trodAll_append (hargs _ fun _ _ => rfl) (hres _ _ _), hvars _ fun _ _ => rfl, rfl, fun b off hp => ?_, fun ha => ?_⟩, fun p hp _ => ?_⟩⟩
  · simpa using hlt p hp
  · simpa using hlt p hp
  · have hp' : MemPlace.cell b off ∈ before := by rw [hps]; simpa using hp
    have := hlt _ hp'
    rw [hS.froz ⟨b, off, none⟩ this]
    exact hz b off hp'
  · have := hn ha
    rw [hps] at this
    simpa using this
  · rw [hps]
    simpa using hp
def isTrue : Option (V × List Obj) → Bool
  | some (.bool true, []) => true
  | _ => false
theorem of_isTrue {x : Option (V × List Obj)} (h : isTrue x = true) : x = some (.bool true, []) := by
  unfold isTrue at h
  split at h
  · rfl
  · cases h
end Go.Vq
