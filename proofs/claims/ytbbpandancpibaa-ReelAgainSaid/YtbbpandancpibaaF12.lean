/- A machine of values and its tie to the model, and runs of it: part 12 of 18 (no law of Go is stated here). -/
import Derived.Test.YtbbpandancpibaaF11
import Derived.Still
import Derived.OrdersIn
import Derived.KernelRfl
set_option linter.unusedVariables false
set_option linter.unusedSimpArgs false
set_option linter.unusedSectionVars false
namespace Go.Vq
open Go.RowKit
section
variable {P : Program} {r : Option Nat} {n : Nat}
theorem wpOpIn_of_stOp {ops : Array Oper} {Q : Exit → Act → World → Prop} {i : Nat} {K : Act → Prop} {K' : Act → World → Prop} {a : Act} {w : World} (hd : ∀ (j : Nat) (o : Oper), ops[j]? = some o → ∀ c, o.op ≠ .defer c) (h : ∀ a, K a → K' a w) (hh : stOp P ops w i K a) : wpOpIn (Fw r) n P ops Q i K' a w := by
  unfold stOp at hh
  unfold wpOpIn
  split
  · rename_i ho; simp only [ho] at hh; exact h _ hh
  · rename_i o ho
    simp only [ho] at hh
    split
    · rename_i hw; simp only [hw, if_true] at hh; exact oper_in (Oper.wp_of_still h hh) (hd _ _ ho)
    · rename_i hw; simp only [hw] at hh; exact ⟨fun _ _ => trivial, h _ hh⟩
theorem wpAnyIn_of_still {ops : Array Oper} {md : Region.Mode} {w : World} {Q : Act → Prop} {Q' : Exit → Act → World → Prop} (hd : ∀ (j : Nat) (o : Oper), ops[j]? = some o → ∀ c, o.op ≠ .defer c) (hQ : ∀ a, Q a → Q' .normal a w) : ∀ (fuel : Nat) (listed : Array Bool) (a : Act),
    wpAnyS P md ops w Q fuel listed a → wpAnyIn (Fw r) n P md ops Q' fuel listed a w
  | 0, _, _, h => ⟨h.1, hQ _ h.2⟩
  | fuel + 1, _, _, h => ⟨fun h0 => hQ _ (h.1 h0), fun i hi => wpOpIn_of_stOp hd (fun a' => wpAnyIn_of_still hd hQ fuel _ a') (h.2 i hi)⟩
theorem wpIn_region_still {ops : Array Oper} {id : Nat} {Q : Exit → Act → World → Prop} {a : Act} {w : World} (hm : P.follows .mixedOrders = true) (hB : Region.lexB .any ops = true) (hd : ∀ (j : Nat) (o : Oper), ops[j]? = some o → ∀ c, o.op ≠ .defer c)
    (h : wpStill P ops w.drew (fun a' => Q .normal a' w.drew) ops.toList a) : (Code.region id ops true).wpIn (Fw r) n P Q a w := by
  simp only [Region.lexB, Bool.and_eq_true] at hB
  refine wpIn_region_any hm (wpAnyIn_of_still (Q := fun a' => Q .normal a' w.drew) hd (fun _ h => h) _ _ _ ?_)
  have := wpAnyS_lex (md := .any) hB.1 ops.toList 0 (Array.replicate ops.size false) a (by simp) (by simpa using hB.2) h
  simpa using this
theorem wpStill_cons {ops : Array Oper} {w : World} {Q : Act → Prop} {a : Act} {o : Oper} {rest : List Oper} {v : Value} (hg : o.guard = none) (hr : (execOp a.eval o).run P w = .ok (.value v) w) (hn : wpStill P ops w Q rest (a.put o.dst v)) : wpStill P ops w Q (o :: rest) a := by
  unfold wpStill
  rw [if_pos (by simp [Region.wanted, hg])]
  unfold Oper.still
  rw [hr]
  exact ⟨rfl, hn⟩
theorem ev_put {a : Act} {d i : Nat} {v : Value} (h : d < a.tmps.size) : (a.put (some d) v).eval (.tmp i) = if i = d then v else a.eval (.tmp i) := by
  by_cases e : i = d
  · subst e; simp [Act.put, Act.eval, h]
  · simp [Act.put, Act.eval, e, Array.getElem?_setIfInBounds_ne (Ne.symm e)]
theorem sz_put {a : Act} {d : Option Nat} {v : Value} : (a.put d v).tmps.size = a.tmps.size := by cases d <;> simp [Act.put]
theorem df_put {a : Act} {d : Option Nat} {v : Value} : (a.put d v).defers = a.defers := by cases d <;> rfl
end
theorem at_act {F : Fence} {n : Nat} {P : Program} {c : Code} {Q : Exit → Act → World → Prop} {w : World} {a : Act} (p : Act → Prop) (hp : p a) (h : ∀ a, p a → c.wpIn F n P Q a w) : c.wpIn F n P Q a w := h a hp
theorem at_ops {F : Fence} {n : Nat} {P : Program} {ops : Array Oper} {Q : Exit → Act → World → Prop} {l : List Nat} {w : World} {a : Act} (p : Act → Prop) (hp : p a) (h : ∀ a, p a → wpOpsIn F n P ops Q l a w) : wpOpsIn F n P ops Q l a w := h a hp
def chunkN (l n : Nat) : Nat := (l + n - 1) / n
def chunkI (sz : Nat) : Iter
  | [[.isl _ sz' es], [.int .i64 n]] => if sz' = sz ∧ 0 < n ∧ n ≤ 140737488355328 ∧ es.length ≤ 140737488355328 then some (1, (List.range (chunkN es.length n.toNat)).map fun k => [.isl 0 sz ((es.drop (k * n.toNat)).take n.toNat)]) else none
  | _ => none
def chunkBody (S Y I B : TypeId) : Code := ((Code.region 0 #[{ dst := some 4, op := Op.assign (Operand.const (Value.int IntKind.i64 0)), type := I, pos := "iter.go:103", after := #[], guard := none }] false).seq (Code.block 0 (((Code.region 1 #[{ dst := some 6, op := Op.move (Operand.tmp 4), type := I, pos := "iter.go:103", after := #[], guard := none }, { dst := some 7, op := Op.load S (Operand.tmp 1), type := S, pos := "iter.go:103", after := #[], guard := none }, { dst := some 8, op := Op.call { callee := Callee.builtin Builtin.len, args := #[Operand.tmp 7], argTypes := #[S] }, type := I, pos := "iter.go:103", after := #[{ on := 1, ground := Ground.data }], guard := none }, { dst := some 9, op := Op.binOp BinOp.lss I (Operand.tmp 6) (Operand.tmp 8) I, type := B, pos := "iter.go:103", after := #[{ on := 0, ground := Ground.data }, { on := 2, ground := Ground.data }], guard := none }] false).seq (Code.cond (Operand.tmp 9) Code.skip (Code.exit 0))).seq ((Code.block 1 ((Code.region 3 #[{ dst := some 13, op := Op.load I (Operand.tmp 2), type := I, pos := "iter.go:105", after := #[], guard := none }, { dst := some 14, op := Op.load S (Operand.tmp 1), type := S, pos := "iter.go:105", after := #[], guard := none }, { dst := some 15, op := Op.move (Operand.tmp 4), type := I, pos := "iter.go:105", after := #[], guard := none }, { dst := some 16, op := Op.slice S (Operand.tmp 14) (some (Operand.tmp 15)) none none, type := S, pos := "iter.go:105", after := #[{ on := 1, ground := Ground.data }, { on := 2, ground := Ground.data }], guard := none }, { dst := some 17, op := Op.call { callee := Callee.builtin Builtin.len, args := #[Operand.tmp 16], argTypes := #[S] }, type := I, pos := "iter.go:105", after := #[{ on := 3, ground := Ground.data }], guard := none }, { dst := some 18, op := Op.call { callee := Callee.builtin Builtin.min, args := #[Operand.tmp 13, Operand.tmp 17], argTypes := #[I, I] }, type := I, pos := "iter.go:105", after := #[{ on := 0, ground := Ground.data }, { on := 4, ground := Ground.data }], guard := none }, { dst := some 5, op := Op.assign (Operand.tmp 18), type := I, pos := "iter.go:105", after := #[{ on := 5, ground := Ground.data }, { on := 0, ground := Ground.phase }, { on := 1, ground := Ground.phase }, { on := 2, ground := Ground.phase }, { on := 3, ground := Ground.phase }, { on := 4, ground := Ground.phase }, { on := 5, ground := Ground.phase }], guard := none }] true).seq ((Code.region 4 #[{ dst := some 19, op := Op.move (Operand.tmp 0), type := Y, pos := "iter.go:109", after := #[], guard := none }, { dst := some 20, op := Op.load S (Operand.tmp 1), type := S, pos := "iter.go:109", after := #[], guard := none }, { dst := some 21, op := Op.move (Operand.tmp 4), type := I, pos := "iter.go:109", after := #[], guard := none }, { dst := some 22, op := Op.move (Operand.tmp 4), type := I, pos := "iter.go:109", after := #[], guard := none }, { dst := some 23, op := Op.move (Operand.tmp 5), type := I, pos := "iter.go:109", after := #[], guard := none }, { dst := some 24, op := Op.binOp BinOp.add I (Operand.tmp 22) (Operand.tmp 23) I, type := I, pos := "iter.go:109", after := #[{ on := 3, ground := Ground.data }, { on := 4, ground := Ground.data }], guard := none }, { dst := some 25, op := Op.move (Operand.tmp 4), type := I, pos := "iter.go:109", after := #[], guard := none }, { dst := some 26, op := Op.move (Operand.tmp 5), type := I, pos := "iter.go:109", after := #[], guard := none }, { dst := some 27, op := Op.binOp BinOp.add I (Operand.tmp 25) (Operand.tmp 26) I, type := I, pos := "iter.go:109", after := #[{ on := 6, ground := Ground.data }, { on := 7, ground := Ground.data }], guard := none }, { dst := some 28, op := Op.slice S (Operand.tmp 20) (some (Operand.tmp 21)) (some (Operand.tmp 24)) (some (Operand.tmp 27)), type := S, pos := "iter.go:109", after := #[{ on := 1, ground := Ground.data }, { on := 2, ground := Ground.data }, { on := 5, ground := Ground.data }, { on := 8, ground := Ground.data }], guard := none }, { dst := some 29, op := Op.call { callee := Callee.value (Operand.tmp 19), args := #[Operand.tmp 28], argTypes := #[S] }, type := B, pos := "iter.go:109", after := #[{ on := 0, ground := Ground.data }, { on := 9, ground := Ground.data }], guard := none }, { dst := some 30, op := Op.unOp UnOp.not B (Operand.tmp 29), type := B, pos := "iter.go:109", after := #[{ on := 10, ground := Ground.data }], guard := none }] false).seq (Code.cond (Operand.tmp 30) Code.ret Code.skip)))).seq (Code.region 2 #[{ dst := some 10, op := Op.move (Operand.tmp 4), type := I, pos := "iter.go:103", after := #[], guard := none }, { dst := some 11, op := Op.load I (Operand.tmp 2), type := I, pos := "iter.go:103", after := #[], guard := none }, { dst := some 12, op := Op.binOp BinOp.add I (Operand.tmp 10) (Operand.tmp 11) I, type := I, pos := "iter.go:103", after := #[{ on := 0, ground := Ground.data }, { on := 1, ground := Ground.data }], guard := none }, { dst := some 4, op := Op.assign (Operand.tmp 12), type := I, pos := "iter.go:103", after := #[{ on := 2, ground := Ground.data }, { on := 0, ground := Ground.phase }, { on := 1, ground := Ground.phase }, { on := 2, ground := Ground.phase }], guard := none }] false))).loop))
section
variable {P : Program} {r : Option Nat} {n : Nat}
structure ChAct (a : Act) (yl : Value) (bx bn : Addr) (i : Nat) : Prop where
  sz : a.tmps.size = 31
  e0 : a.eval (.tmp 0) = yl
  e1 : a.eval (.tmp 1) = .pointer (some bx)
  e2 : a.eval (.tmp 2) = .pointer (some bn)
  e4 : a.eval (.tmp 4) = .int .i64 i
  df : a.defers = []
theorem slice_run {w : World} {S e : TypeId} {sz len cap : Nat} {ad : Option Addr} {o : Oper} {a : Act} {x : Operand} {lo hi mx : Option Operand} {l h : Int} {m : Nat} (ho : o.op = .slice S x lo hi mx) (hS : under P S = some (.slice e)) (hs : szOf P e = some sz) (hx : a.eval x = .slice ad len cap)
    (h0 : OptIs a lo 0 l) (h1 : OptIs a hi len h) (h2 : (mx = none ∧ m = cap) ∨ (hi ≠ none ∧ m = h.toNat ∧ ∃ x kk, mx = some x ∧ a.eval x = .int kk h)) (g0 : 0 ≤ l) (g1 : l ≤ h) (g2 : h ≤ cap) :
    (execOp a.eval o).run P w = .ok (.value (sliced ad l.toNat h.toNat m sz)) w := by
  have hb := bounds_run (P := P) (w := w) (isSlice := true) h0 h1 h2 g0 g1 g2
  simp only [execOp, ho, Instr.sliceAt, Sem.run_bind, run_under hS, Result.andThen_ok, hx, Instr.slice, hb, run_size hs, Sem.run_pure, sliced]
theorem min_run {w : World} {o : Oper} {a : Act} {c : Call} {t : TypeId} {x y : Operand} {p q : Int} (ho : o.op = .call c) (hc : c.callee = .builtin .min) (ha : c.args = #[x, y]) (htt : c.argTypes = #[t, t]) (ht : under P t = some (.int .i64)) (hx : a.eval x = .int .i64 p) (hy : a.eval y = .int .i64 q) :
    (execOp a.eval o).run P w = .ok (.value (.int .i64 (if q < p then q else p))) w := by
  obtain ⟨r, e1, e2⟩ := minFrom_run (P := P) (w := w) (k := .i64) [.int .i64 q] [.int .i64 q] p (.int .i64 (if q < p then q else p)) rfl (fun i v y z h1 h2 h3 => by
    cases i with
    | succ i => simp at h1
    | zero => simp at h1 h2; subst h1 h2; cases h3; rfl) rfl
  cases e1
  rw [builtin_run ho hc]
  have e3 : (Builtin.min2 (.int .i64 p) (.int .i64 q)).run P w = .ok (.int .i64 (if q < p then q else p)) w := by simpa using e2
  simp [builtin, Builtin.min_, ha, hx, hy, e3]
set_option maxHeartbeats 2000000 in
theorem chunk_ok {g : FuncId} {fn : Func} {S e Y I B : TypeId} {sz : Nat} (h1 : P.funcs[g]? = some fn) (h2 : fn.body = some (chunkBody S Y I B)) (h3 : fn.ntmps = 31) (h4 : fn.results = #[]) (h5 : (fn.name == "runtime.NumGoroutine") = false) (hm : P.follows .mixedOrders = true)
    (hS : under P S = some (.slice e)) (hSs : szOf P S = some 1) (hSa : aggOf P S = some false) (hI : under P I = some (.int .i64)) (hIs : szOf P I = some 1) (hIa : aggOf P I = some false) (hs : szOf P e = some sz) : IterOk P g (chunkI sz) := by
  refine ⟨⟨fn, h1, by rw [h2]; rfl, h5⟩, fun bs xs ar hrun E lb w hlb hbx => ?_⟩
  unfold chunkI at hrun
  split at hrun
  case h_2 => cases hrun
  rename_i g0 sz' es nn
  split at hrun
  case isFalse => cases hrun
  rename_i hc
  obtain ⟨hsz, hn0, hnb, hbig⟩ := hc
  replace hsz := hsz.symm
  subst hsz
  obtain ⟨q, rfl⟩ : ∃ q : Nat, nn = q := ⟨nn.toNat, by omega⟩
  simp only [Int.toNat_natCast] at hrun
  have hq0 : 0 < q := by omega
  cases hrun
  obtain ⟨bx, hbx0, hbs, hbc⟩ := hbx 0 _ rfl
  obtain ⟨sv, him, hcv, hIs0⟩ := hbc 0 _ rfl
  rw [Nat.add_zero] at him hcv
  obtain ⟨bn, hbn0, hns, hnc⟩ := hbx 1 _ rfl
  obtain ⟨nv, hnm, hnv, hIn⟩ := hnc 0 _ rfl
  rw [Nat.add_zero] at hnm hnv
  cases hIn
  obtain ⟨a, cap, hw, hiw⟩ := View.of_isl hIs0
  have hsv := hw.eq
  subst hsv
  have hle := hw.le
  have hlb' : lb = #[.pointer (some bx), .pointer (some bn)] := by
    apply Array.ext'
    match hl : lb.toList, (by simpa using hlb.symm : lb.toList.length = 2) with
    | [x, y], _ =>
      have k1 : lb.toList[0]? = some (.pointer (some bx)) := by simpa using hbx0
      have k2 : lb.toList[1]? = some (.pointer (some bn)) := by simpa using hbn0
      rw [hl] at k1 k2; simp at k1 k2; rw [k1, k2]
  subst hlb'
  obtain ⟨N, hN⟩ : ∃ N, N = chunkN es.length q := ⟨_, rfl⟩
  have hkN : ∀ k, k < N ↔ k * q < es.length := by
    intro k
    rw [hN, chunkN, Nat.lt_div_iff_mul_lt hq0]
    omega
  obtain ⟨en, hen⟩ : ∃ en : Nat → Nat, en = fun i => min q (es.length - i) := ⟨_, rfl⟩
  refine ⟨fun k => #[sliced a (k * q) (k * q + en (k * q)) (k * q + en (k * q)) sz], fun k x hx => ?_, fun Kp hKt hKp hKd l J Jx W hW hJd hY h0 => ?_⟩
  · have hk : k < N := by have := lt_of_getElem? hx; rw [hN]; simpa using this
    rw [List.getElem?_map, List.getElem?_range (by rw [← hN]; exact hk)] at hx
    cases hx
    refine ⟨rfl, rfl, fun j v y hv hy => ?_⟩
    cases j with
    | succ j => simp at hv
    | zero =>
      simp only [List.getElem?_cons_zero, Option.some.injEq] at hv
      simp only [List.getElem?_toArray, List.getElem?_cons_zero, Option.some.injEq] at hy
      subst hv hy
      have hlt := (hkN k).1 hk
      have hel : en (k * q) ≤ es.length - k * q := by rw [hen]; exact Nat.min_le_right _ _
      obtain ⟨a', e1, hw', ha'⟩ := hw.sliced (l := k * q) (h := k * q + en (k * q)) (m := k * q + en (k * q)) (by omega) (by omega) (Nat.le_refl _) (by omega)
      have hr := isl_of_sub (g := 0) hw' ha' hiw
      have ht : (es.drop (k * q)).take (k * q + en (k * q) - k * q) = (es.drop (k * q)).take q := by
        rw [Nat.add_sub_cancel_left, hen]
        simp only
        rw [← List.take_take]
        congr 1
        rw [List.take_of_length_le]
        simp
      rw [ht, e1] at hr
      rw [e1, Nat.add_sub_cancel_left]
      rw [Nat.add_sub_cancel_left] at hr
      exact ⟨rfl, fun j u z hu hz => by
        cases j with
        | succ j => simp [V.cells] at hu
        | zero =>
          simp only [V.cells, List.getElem?_cons_zero, Option.some.injEq] at hu
          simp only [vcells, Value.cells, List.getElem?_cons_zero, Option.some.injEq] at hz
          subst hu hz
          exact ⟨rfl, hr⟩⟩
  · have hlen : ((List.range (chunkN es.length q)).map fun k => [V.isl 0 sz ((es.drop (k * q)).take q)]).length = N := by simp [hN]
    rw [hlen] at hY ⊢
    refine callsIn_of_wp h1 h2 trivial ?_
    rw [h3]
    have hsame : ∀ {W' : World}, Kp w W' → ∀ b i, E.imm b i → cellAt W'.heap b i = cellAt w.heap b i := fun h => hKp _ _ h
    obtain ⟨yl, hyl⟩ : ∃ yl, yl = Value.func (.yield l) #[] #[] := ⟨_, rfl⟩
    have hloadS : ∀ {W' : World} {o : Oper} {a1 : Act}, o.op = .load S (.tmp 1) → a1.eval (.tmp 1) = .pointer (some bx) → Kp w W' → (execOp a1.eval o).run P W' = .ok (.value (.slice a es.length cap)) W' := by
      intro W' o a1 ho ha1 h
      have := load1_run (P := P) (w := W') hSa hSs hbs ((hsame h _ _ him).trans hcv)
      simp [execOp, ho, ha1, Instr.loadAt, Instr.sureAddr, this]
    have hloadN : ∀ {W' : World} {o : Oper} {a1 : Act}, o.op = .load I (.tmp 2) → a1.eval (.tmp 2) = .pointer (some bn) → Kp w W' → (execOp a1.eval o).run P W' = .ok (.value (.int .i64 q)) W' := by
      intro W' o a1 ho ha1 h
      have := load1_run (P := P) (w := W') hIa hIs hns ((hsame h _ _ hnm).trans hnv)
      simp [execOp, ho, ha1, Instr.loadAt, Instr.sureAddr, this]
    have hlenr : ∀ {W' : World} {o : Oper} {a1 : Act} {t : Nat} {b' : Option Addr} {m c' : Nat}, o.op = .call { callee := .builtin .len, args := #[.tmp t], argTypes := #[S] } → a1.eval (.tmp t) = .slice b' m c' → (execOp a1.eval o).run P W' = .ok (.value (.int .i64 m)) W' := by
      intro W' o a1 t b' m c' ho ha1
      rw [builtin_run ho rfl]
      simp [builtin, Builtin.len_, run_under hS, goInt, ha1]
    have hmv : ∀ {W' : World} {o : Oper} {a1 : Act} {t : Nat} {v : Value}, (o.op = .move (.tmp t) ∨ o.op = .assign (.tmp t)) → a1.eval (.tmp t) = v → (execOp a1.eval o).run P W' = .ok (.value v) W' := by
      intro W' o a1 t v ho ha1
      rcases ho with ho | ho <;> simp [execOp, ho, ha1]
    have hwrap : ∀ z : Int, -9223372036854775808 ≤ z → z < 9223372036854775808 → IntKind.i64.wrap z = z := by
      intro z h1 h2
      simp only [IntKind.wrap, IntKind.bits, IntKind.signed]
      simp
      omega
    have hbin : ∀ (op : BinOp) (u v r : V) (xu xv yr : Value) (W' : World) {o : Oper} {a1 : Act} {s t : Nat}, op ≠ .eql ∧ op ≠ .neq → o.op = .binOp op I (.tmp s) (.tmp t) I → a1.eval (.tmp s) = xu → a1.eval (.tmp t) = xv → u.toVal = some xu → v.toVal = some xv → binV op u v = some r → r.toVal = some yr → (execOp a1.eval o).run P W' = .ok (.value yr) W' := by
      intro op u v r xu xv yr W' o a1 s t hne ho k1 k2 e1 e2 e3 e4
      obtain ⟨yr', e5, e6⟩ := binV_run (P := P) (w := W') (t := I) e1 e2 e3
      rw [e4] at e5; cases e5
      simp only [execOp, ho, k1, k2]
      simp [eqGuard_skip hne, e6]
    have hadd : ∀ (x y : Nat) (W' : World) {o : Oper} {a1 : Act} {s t : Nat}, x + y < 9223372036854775808 → o.op = .binOp .add I (.tmp s) (.tmp t) I → a1.eval (.tmp s) = .int .i64 x → a1.eval (.tmp t) = .int .i64 y → (execOp a1.eval o).run P W' = .ok (.value (.int .i64 ((x + y : Nat) : Int))) W' := fun x y W' _ _ _ _ hb ho k1 k2 =>
      hbin .add (.int .i64 x) (.int .i64 y) (.int .i64 ((x + y : Nat) : Int)) _ _ _ W' (by decide) ho k1 k2 rfl rfl (by simp only [binV, if_true]; rw [hwrap _ (by omega) (by omega)]; rfl) rfl
    have hlss : ∀ (x y : Nat) (W' : World) {o : Oper} {a1 : Act} {s t : Nat}, o.op = .binOp .lss I (.tmp s) (.tmp t) I → a1.eval (.tmp s) = .int .i64 x → a1.eval (.tmp t) = .int .i64 y → (execOp a1.eval o).run P W' = .ok (.value (.bool (decide (x < y)))) W' := fun x y W' _ _ _ _ ho k1 k2 =>
      hbin .lss (.int .i64 x) (.int .i64 y) (.bool (decide (x < y))) _ _ _ W' (by decide) ho k1 k2 rfl rfl (by simp only [binV, if_true]; simp) rfl
    refine at_act (fun a => a.tmps.size = 31 ∧ a.eval (.tmp 0) = yl ∧ a.eval (.tmp 1) = .pointer (some bx) ∧ a.eval (.tmp 2) = .pointer (some bn) ∧ a.defers = []) ⟨by simp, by simp [Act.eval, hyl], by simp [Act.eval], by simp [Act.eval], rfl⟩ fun a0 K0 => ?_
    obtain ⟨z0, z1, z2, z3, z4⟩ := K0
    unfold chunkBody
    refine wpIn_seq (wpIn_region_at 1 [0] rfl rfl ?_)
    refine wpOpsIn_cons (v := .int .i64 0) (w' := W) rfl rfl (by simp) (by simp [execOp, Act.eval]) ?_
    simp only [wpOpsIn]
    refine at_act (fun a => ChAct a yl bx bn 0) ⟨by simp [sz_put, z0], by simp [ev_put, z0, z1], by simp [ev_put, z0, z2], by simp [ev_put, z0, z3], by simp [ev_put, z0], by simp [df_put, z4]⟩ fun a1 K => ?_
    clear z0 z1 z2 z3 z4
    refine wpIn_block (wpIn_loop_fuel (m := N) (fun m a' W' => m ≤ N ∧ ChAct a' yl bx bn ((N - m) * q) ∧ J (N - m) W' ∧ Kp w W' ∨ False)
      (.inl ⟨Nat.le_refl _, by simpa using K, by simpa using h0, hW⟩) ?_)
    clear K a1
    rintro m a' W' (⟨hmN, ⟨sz0, e0, e1, e2, e4, df⟩, hJ, hKW⟩ | h)
    case inr => exact h.elim
    obtain ⟨i, hi⟩ : ∃ i, i = (N - m) * q := ⟨_, rfl⟩
    rw [← hi] at e4
    have hb31 : ∀ d : Nat, d < 31 → d < a'.tmps.size := fun d h => by omega
    refine wpIn_seq (wpIn_seq (wpIn_region_at 4 [0, 1, 2, 3] rfl rfl ?_))
    refine wpOpsIn_cons (v := .int .i64 i) (w' := W') rfl rfl (by simp) (hmv (.inl rfl) e4) ?_
    refine wpOpsIn_cons (v := .slice a es.length cap) (w' := W') rfl rfl (by simp) (hloadS rfl (by simp [ev_put, sz_put, sz0, e1]) hKW) ?_
    refine wpOpsIn_cons (v := .int .i64 es.length) (w' := W') rfl rfl (by simp) (hlenr rfl (by simp [ev_put, sz_put, sz0]; exact ⟨rfl, rfl⟩)) ?_
    refine wpOpsIn_cons (v := .bool (decide (i < es.length))) (w' := W') rfl rfl (by simp) (hlss i es.length W' rfl (by simp [ev_put, sz_put, sz0]) (by simp [ev_put, sz_put, sz0])) ?_
    simp only [wpOpsIn]
    cases m with
    | zero =>
      have hge : ¬ i < es.length := by rw [hi, ← hkN]; omega
      refine wpIn_cond_false (by simp [ev_put, sz_put, sz0, hge]) (wpIn_exit ?_)
      refine ⟨by simp [df_put, df], _, results_none h4 _ _ _, ⟨_, rfl⟩, .inl (by simpa using hJ)⟩
    | succ m =>
      have hlt : i < es.length := by rw [hi, ← hkN]; omega
      have hel : en i ≤ es.length - i := by rw [hen]; exact Nat.min_le_right _ _
      have heq' : (if ((es.length - i : Nat) : Int) < (q : Int) then ((es.length - i : Nat) : Int) else (q : Int)) = (en i : Int) := by rw [hen]; simp only; split <;> omega
      refine wpIn_cond_true (by simp [ev_put, sz_put, sz0, hlt]) (wpIn_skip ?_)
      have hKW2 : Kp w W'.drew := hKt _ _ _ hKW (hKd _)
      have hJ2 := hJd _ _ hJ
      refine wpIn_seq (wpIn_block (wpIn_seq ?_))
      refine at_act (fun a => ChAct a yl bx bn i) ⟨by simp [sz_put, sz0], by simp [ev_put, sz_put, sz0, e0], by simp [ev_put, sz_put, sz0, e1], by simp [ev_put, sz_put, sz0, e2], by simp [ev_put, sz_put, sz0, e4], by simp [df_put, df]⟩ fun a1 K => ?_
      clear sz0 e0 e1 e2 e4 df
      obtain ⟨k0, k1, k2, k3, k4, k5⟩ := K
      refine wpIn_region_still hm (by kernel_rfl) (fun j o hj c => by
        rcases j with _ | _ | _ | _ | _ | _ | _ | j <;> simp at hj <;> subst hj <;> simp) ?_
      refine wpStill_cons (v := .int .i64 q) rfl (hloadN rfl k3 hKW2) ?_
      refine wpStill_cons (v := .slice a es.length cap) rfl (hloadS rfl (by simp [ev_put, sz_put, k0, k2]) hKW2) ?_
      refine wpStill_cons (v := .int .i64 i) rfl (hmv (.inl rfl) (by simp [ev_put, sz_put, k0, k4])) ?_
      refine wpStill_cons (v := sliced a i es.length cap sz) rfl (slice_run (l := (i : Int)) (h := (es.length : Int)) (m := cap) (len := es.length) rfl hS hs (by simp [ev_put, sz_put, k0]) (.inr ⟨_, .i64, rfl, by simp [ev_put, sz_put, k0]⟩) (.inl ⟨rfl, rfl⟩) (.inl ⟨rfl, rfl⟩) (by omega) (by omega) (by omega)) ?_
      refine wpStill_cons (v := .int .i64 ((es.length - i : Nat) : Int)) rfl (hlenr rfl (by simp [ev_put, sz_put, k0]; rfl)) ?_
      refine wpStill_cons (v := .int .i64 (en i : Int)) rfl (by
        rw [← heq']
        exact min_run rfl rfl rfl rfl hI (by simp [ev_put, sz_put, k0]) (by simp [ev_put, sz_put, k0])) ?_
      refine wpStill_cons (v := .int .i64 (en i : Int)) rfl (hmv (.inr rfl) (by simp [ev_put, sz_put, k0])) ?_
      refine wpStill_nil ?_
      refine at_act (fun a => ChAct a yl bx bn i ∧ a.eval (.tmp 5) = .int .i64 (en i : Int)) ⟨⟨by simp [sz_put, k0], by simp [ev_put, sz_put, k0, k1], by simp [ev_put, sz_put, k0, k2], by simp [ev_put, sz_put, k0, k3], by simp [ev_put, sz_put, k0, k4], by simp [df_put, k5]⟩, by simp [ev_put, sz_put, k0]⟩ fun a2 K => ?_
      clear k0 k1 k2 k3 k4 k5
      obtain ⟨⟨k0, k1, k2, k3, k4, k5⟩, k6⟩ := K
      obtain ⟨sl, hsl⟩ : ∃ sl, sl = sliced a i (i + en i) (i + en i) sz := ⟨_, rfl⟩
      refine wpIn_seq (wpIn_region_at 12 [0, 1, 2, 3, 4, 5, 6, 7, 8, 9, 10, 11] rfl rfl ?_)
      refine wpOpsIn_cons (v := yl) (w' := W'.drew) rfl rfl (by simp) (hmv (.inl rfl) k1) ?_
      refine wpOpsIn_cons (v := .slice a es.length cap) (w' := W'.drew) rfl rfl (by simp) (hloadS rfl (by simp [ev_put, sz_put, k0, k2]) hKW2) ?_
      refine wpOpsIn_cons (v := .int .i64 i) (w' := W'.drew) rfl rfl (by simp) (hmv (.inl rfl) (by simp [ev_put, sz_put, k0, k4])) ?_
      refine wpOpsIn_cons (v := .int .i64 i) (w' := W'.drew) rfl rfl (by simp) (hmv (.inl rfl) (by simp [ev_put, sz_put, k0, k4])) ?_
      refine wpOpsIn_cons (v := .int .i64 (en i : Int)) (w' := W'.drew) rfl rfl (by simp) (hmv (.inl rfl) (by simp [ev_put, sz_put, k0, k6])) ?_
      refine wpOpsIn_cons (v := .int .i64 ((i + en i : Nat) : Int)) (w' := W'.drew) rfl rfl (by simp) (hadd i (en i) W'.drew (by omega) rfl (by simp [ev_put, sz_put, k0]) (by simp [ev_put, sz_put, k0])) ?_
      refine wpOpsIn_cons (v := .int .i64 i) (w' := W'.drew) rfl rfl (by simp) (hmv (.inl rfl) (by simp [ev_put, sz_put, k0, k4])) ?_
      refine wpOpsIn_cons (v := .int .i64 (en i : Int)) (w' := W'.drew) rfl rfl (by simp) (hmv (.inl rfl) (by simp [ev_put, sz_put, k0, k6])) ?_
      refine wpOpsIn_cons (v := .int .i64 ((i + en i : Nat) : Int)) (w' := W'.drew) rfl rfl (by simp) (hadd i (en i) W'.drew (by omega) rfl (by simp [ev_put, sz_put, k0]) (by simp [ev_put, sz_put, k0])) ?_
      refine wpOpsIn_cons (v := sl) (w' := W'.drew) rfl rfl (by simp) (by
        rw [hsl]
        exact slice_run (l := (i : Int)) (h := ((i + en i : Nat) : Int)) (m := i + en i) (len := es.length) (cap := cap) rfl hS hs (by simp [ev_put, sz_put, k0]) (.inr ⟨_, .i64, rfl, by simp [ev_put, sz_put, k0]⟩) (.inr ⟨_, .i64, rfl, by simp [ev_put, sz_put, k0]⟩) (.inr ⟨by simp, rfl, _, .i64, rfl, by simp [ev_put, sz_put, k0]⟩) (by omega) (by omega) (by omega)) ?_
      refine at_ops (fun a => ChAct a yl bx bn i ∧ a.eval (.tmp 19) = yl ∧ a.eval (.tmp 28) = sl) ⟨⟨by simp [sz_put, k0], by simp [ev_put, sz_put, k0, k1], by simp [ev_put, sz_put, k0, k2], by simp [ev_put, sz_put, k0, k3], by simp [ev_put, sz_put, k0, k4], by simp [df_put, k5]⟩, by simp [ev_put, sz_put, k0], by simp [ev_put, sz_put, k0]⟩ fun a3 K => ?_
      clear k0 k1 k2 k3 k4 k5 k6
      obtain ⟨⟨k0, k1, k2, k3, k4, k5⟩, k6, k7⟩ := K
      obtain ⟨fn', tmps', asg, bod, hy, hR⟩ := hY (N - (m + 1)) W'.drew hJ2 (by omega)
      simp only at hy
      rw [← hi, ← hsl] at hy
      refine wpOpsIn_round (l := l) (f := fn') (tmps := tmps') (asg := asg) (body := bod) (w' := W'.drew) rfl rfl (by simp) ?_ ?_
      · simp [execOp, k6, k7, resolve, Deferred.ofValue, invoke, hyl, hy]
      refine hR.mono ?_
      rintro e' W3 (⟨rfl, hJ3, hK3⟩ | ⟨rfl, hJx⟩)
      · dsimp only
        refine wpOpsIn_cons (v := .bool false) (w' := W3) rfl rfl (by simp) (by simp [execOp, ev_put, k0, Op.unary]) ?_
        simp only [wpOpsIn]
        refine wpIn_cond_false (by simp [ev_put, sz_put, k0]) (wpIn_skip ?_)
        refine at_act (fun a => ChAct a yl bx bn i) ⟨by simp [sz_put, k0], by simp [ev_put, sz_put, k0, k1], by simp [ev_put, sz_put, k0, k2], by simp [ev_put, sz_put, k0, k3], by simp [ev_put, sz_put, k0, k4], by simp [df_put, k5]⟩ fun a4 K => ?_
        clear k0 k1 k2 k3 k4 k5 k6 k7
        obtain ⟨k0, k1, k2, k3, k4, k5⟩ := K
        have hKW3 : Kp w W3 := hKt _ _ _ hKW2 hK3
        have hbi : i + q < 9223372036854775808 := by omega
        refine wpIn_region_at 4 [0, 1, 2, 3] rfl rfl ?_
        refine wpOpsIn_cons (v := .int .i64 i) (w' := W3) rfl rfl (by simp) (hmv (.inl rfl) k4) ?_
        refine wpOpsIn_cons (v := .int .i64 q) (w' := W3) rfl rfl (by simp) (hloadN rfl (by simp [ev_put, sz_put, k0, k3]) hKW3) ?_
        refine wpOpsIn_cons (v := .int .i64 ((i + q : Nat) : Int)) (w' := W3) rfl rfl (by simp) (hadd i q W3 hbi rfl (by simp [ev_put, sz_put, k0]) (by simp [ev_put, sz_put, k0])) ?_
        refine wpOpsIn_cons (v := .int .i64 ((i + q : Nat) : Int)) (w' := W3) rfl rfl (by simp) (hmv (.inr rfl) (by simp [ev_put, sz_put, k0])) ?_
        simp only [wpOpsIn]
        have hJ4 : J (N - m) W3 := by rw [show N - m = N - (m + 1) + 1 by omega]; exact hJ3
        have hi2 : (N - m) * q = i + q := by rw [hi, show N - m = N - (m + 1) + 1 by omega, Nat.succ_mul]
        refine ⟨m, Nat.lt_succ_self m, .inl ⟨by omega, ?_, hJ4, hKW3⟩⟩
        rw [hi2]
        exact ⟨by simp [sz_put, k0], by simp [ev_put, sz_put, k0, k1], by simp [ev_put, sz_put, k0, k2], by simp [ev_put, sz_put, k0, k3], by simp [ev_put, sz_put, k0], by simp [df_put, k5]⟩
      · dsimp only
        refine wpOpsIn_cons (v := .bool true) (w' := W3) rfl rfl (by simp) (by simp [execOp, ev_put, k0, Op.unary]) ?_
        simp only [wpOpsIn]
        refine wpIn_cond_true (by simp [ev_put, sz_put, k0]) (wpIn_ret ?_)
        exact ⟨by simp [df_put, k5], _, results_none h4 _ _ _, ⟨_, rfl⟩, .inr ⟨_, hJx⟩⟩
end
end Go.Vq
namespace Go.Vq
end Go.Vq
namespace Go.Vq
end Go.Vq
namespace Go.Vq
end Go.Vq
namespace Go.Vq
end Go.Vq
namespace Go.Vq
end Go.Vq
namespace Go.Vq
end Go.Vq
namespace Go.Vq
end Go.Vq
namespace Go.Vq
end Go.Vq
namespace Go.Vq
def Args (w : World) (vs : List V) (xs : List Value) : Prop := vs.length = xs.length ∧ ∀ (i : Nat) (v : V) (x : Value), vs[i]? = some v → xs[i]? = some x → RelE (env0 w.heap) w.heap v x
theorem Args.nil (w : World) : Args w [] [] := ⟨rfl, fun i v x h => by simp at h⟩
theorem Args.cons {w : World} {v : V} {x : Value} {vs : List V} {xs : List Value} (h : RelE (env0 w.heap) w.heap v x) (hs : Args w vs xs) : Args w (v :: vs) (x :: xs) := by
  refine ⟨by simp [hs.1], fun i u y hu hy => ?_⟩
  cases i with
  | zero => simp at hu hy; subst hu hy; exact h
  | succ i => exact hs.2 i u y (by simpa using hu) (by simpa using hy)
theorem relE_leaf {E : Env} {H : Array Go.Obj} {v : V} {x : Value} (hl : v.leaf = true) (h : RelI E.imm H v x) : RelE E H v x := by
  have hx := relI_leafX h hl
  have hag : aggX x = false := by cases x <;> first | rfl | simp [leafX] at hx
  refine ⟨(shape1_leaf hl).2 hag, fun j u z hu hz => ?_⟩
  rw [cells_leaf hl] at hu; rw [vcells_leaf hag] at hz
  cases j with
  | zero => simp at hu hz; subst hu hz; exact ⟨hl, h⟩
  | succ j => simp at hu
theorem Args.core {w : World} {vs : List V} {xs : List Value} (h : Args w vs xs) : Core 0 (env0 w.heap) vs (([] : List Obj).map some) xs w.heap := by
  refine ⟨h.1, Nat.zero_le _, fun s v x hv hx => (relE_slot (h.2 s v x hv hx) _ _ _ _).1, fun o cs ho => by simp at ho, (core0 w.heap).fresh, fun s v hv r hr => ?_⟩
  obtain ⟨x, hx⟩ := exists_getElem? (l := xs) (i := s) (by rw [← h.1]; exact lt_of_getElem? hv)
  rw [(relE_slot (h.2 s v x hv hx) [] [] [] 0).2] at hr
  cases hr
theorem true_walk_args {P : Program} {G : VProg} (hG : GOk P G) {f : FuncId} {M : Nat} {vs : List V} {xs : List Value} (h : call G M f vs [] = some (.bool true, [])) (w : World) (ha : Args w vs xs) :
    Calls P f xs.toArray w fun e w' => e = .returned (.bool true) ∧ Still w w' := by
  have hb := (call_sound hG M f vs [] _ _ h).2.2 (env0 w.heap) xs w ha.core
  refine hb.mono fun e w' he => ?_
  cases e with
  | returned x =>
    obtain ⟨E', hC, hg, hs⟩ := he
    have := slot_toVal (hC.slot 0 _ x rfl rfl) (y := .bool true) rfl
    exact ⟨by rw [this], still_of hg hs⟩
  | _ => exact he.elim
def more (prims : FuncId → Option VDef) (f0 : FuncId) (d : VDef) : FuncId → Option VDef := fun f => if f = f0 then some d else prims f
end Go.Vq
namespace Go.Vq
open Go.ChangeShapes
def isAggD : TypeDesc → Bool
  | .struct _ | .array _ _ => true
  | _ => false
def aggT (P : Program) (t : TypeId) : Bool := match P.underlying t with
  | some d => isAggD d
  | none => false
def consec (P : Program) : List Field → Nat → Nat → Bool
  | [], off, n => off == n
  | f :: fs, off, n => f.offset == off && consec P fs (off + P.cellsOf f.type) n
def argT (P : Program) : Nat → Bool → TypeId → Bool
  | 0, _, _ => false
  | d + 1, sl, t => match P.underlying t with
    | some .bool | some .string => P.cellsOf t == 1
    | some (.int _) => P.cellsOf t == 1
    | some (.slice e) => P.cellsOf t == 1 && P.cellsOf e != 0 && argT P d sl e
    | some (.struct fs) => consec P fs.toList 0 (P.cellsOf t) && fs.toList.all fun f => argT P d sl f.type
    | some (.array n e) => P.cellsOf t == n * P.cellsOf e && argT P d sl e
    | _ => false
inductive HasC (P : Program) : List TypeId → List V → Prop
  | nil : HasC P [] []
  | bool {t : TypeId} {ts : List TypeId} {vs : List V} (b : Bool) (h : P.underlying t = some .bool) (hs : HasC P ts vs) : HasC P (t :: ts) (.bool b :: vs)
  | int {t : TypeId} {ts : List TypeId} {vs : List V} (k : IntKind) (n : Int) (h : P.underlying t = some (.int k)) (hw : (Lit.int k n).wf = true) (hs : HasC P ts vs) : HasC P (t :: ts) (.int k n :: vs)
  | str {t : TypeId} {ts : List TypeId} {vs : List V} (s : List UInt8) (h : P.underlying t = some .string) (hl : s.length ≤ maxLen) (hs : HasC P ts vs) : HasC P (t :: ts) (.str s :: vs)
  | slice {t e : TypeId} {ts : List TypeId} {vs : List V} (es : List V) (h : P.underlying t = some (.slice e)) (hl : es.length ≤ maxLen)
      (hsh : ∀ x ∈ es, (aggT P e = true → ∃ cs, x = .agg cs) ∧ (aggT P e = false → x.leaf = true)) (hes : ∀ x ∈ es, HasC P [e] x.cells) (hs : HasC P ts vs) : HasC P (t :: ts) (.isl 0 (P.cellsOf e) es :: vs)
  | struct {t : TypeId} {ts : List TypeId} {cs vs : List V} (fs : Array Field) (h : P.underlying t = some (.struct fs)) (hc : HasC P (fs.toList.map (·.type)) cs) (hs : HasC P ts vs) : HasC P (t :: ts) (cs ++ vs)
  | array {t : TypeId} {ts : List TypeId} {cs vs : List V} (n : Nat) (e : TypeId) (h : P.underlying t = some (.array n e)) (hc : HasC P (List.replicate n e) cs) (hs : HasC P ts vs) : HasC P (t :: ts) (cs ++ vs)
def HasT (P : Program) (t : TypeId) (v : V) : Prop := (aggT P t = true → ∃ cs, v = .agg cs) ∧ (aggT P t = false → v.leaf = true) ∧ HasC P [t] v.cells
theorem HasC.append {P : Program} {ts us : List TypeId} {vs ws : List V} (h : HasC P ts vs) (h2 : HasC P us ws) : HasC P (ts ++ us) (vs ++ ws) := by
  induction h with
  | nil => exact h2
  | bool b h _ ih => exact .bool b h ih
  | int k n h hw _ ih => exact .int k n h hw ih
  | str s h hl _ ih => exact .str s h hl ih
  | slice es h hl hsh hes _ _ ih => exact .slice es h hl hsh hes ih
  | struct fs h hc _ _ ih => rw [List.cons_append, List.append_assoc]; exact .struct fs h hc ih
  | array n e h hc _ _ ih => rw [List.cons_append, List.append_assoc]; exact .array n e h hc ih
section
variable {P : Program} {t : TypeId} {ts : List TypeId} {vs : List V}
theorem HasC.inv_nil (h : HasC P [] vs) : vs = [] := by cases h; rfl
theorem HasC.inv_int {k : IntKind} (ht : P.underlying t = some (.int k)) (h : HasC P (t :: ts) vs) : ∃ n ws, vs = .int k n :: ws ∧ (Lit.int k n).wf = true ∧ HasC P ts ws := by
  cases h with
  | int k' n h hw hs =>
    rw [ht] at h
    cases h
    exact ⟨n, _, rfl, hw, hs⟩
  | _ => simp_all
theorem HasC.inv_str (ht : P.underlying t = some .string) (h : HasC P (t :: ts) vs) : ∃ s ws, vs = .str s :: ws ∧ s.length ≤ maxLen ∧ HasC P ts ws := by
  cases h with
  | str s h hl hs => exact ⟨s, _, rfl, hl, hs⟩
  | _ => simp_all
theorem HasC.inv_slice {e : TypeId} (ht : P.underlying t = some (.slice e)) (h : HasC P (t :: ts) vs) : ∃ es ws, vs = .isl 0 (P.cellsOf e) es :: ws ∧ es.length ≤ maxLen ∧ (∀ x ∈ es, HasT P e x) ∧ HasC P ts ws := by
  cases h with
  | slice es h hl hsh hes hs =>
    rw [ht] at h
    cases h
    exact ⟨es, _, rfl, hl, fun x hx => ⟨(hsh x hx).1, (hsh x hx).2, hes x hx⟩, hs⟩
  | _ => simp_all
theorem HasT.leaf {v : V} (ha : aggT P t = false) (h : HasT P t v) : HasC P [t] [v] := by
  have := h.2.2
  rwa [cells_leaf (h.2.1 ha)] at this
theorem HasT.agg {v : V} (ha : aggT P t = true) (h : HasT P t v) : ∃ cs, v = .agg cs ∧ HasC P [t] cs := by
  obtain ⟨cs, rfl⟩ := h.1 ha
  exact ⟨cs, rfl, h.2.2⟩
end
inductive Rels (imm : Nat → Nat → Prop) (H : Array Go.Obj) : List V → List Value → Prop
  | nil : Rels imm H [] []
  | cons {v : V} {x : Value} {vs : List V} {xs : List Value} (hl : v.leaf = true) (h : RelI imm H v x) (hs : Rels imm H vs xs) : Rels imm H (v :: vs) (x :: xs)
section
variable {imm : Nat → Nat → Prop} {H : Array Go.Obj}
theorem Rels.length {vs : List V} {xs : List Value} (h : Rels imm H vs xs) : vs.length = xs.length := by
  induction h with
  | nil => rfl
  | cons _ _ _ ih => simp [ih]
theorem Rels.append {vs ws : List V} {xs ys : List Value} (h : Rels imm H vs xs) (h2 : Rels imm H ws ys) : Rels imm H (vs ++ ws) (xs ++ ys) := by
  induction h with
  | nil => exact h2
  | cons hl h _ ih => exact .cons hl h ih
theorem Rels.get {vs : List V} {xs : List Value} (h : Rels imm H vs xs) : ∀ (j : Nat) (u : V) (z : Value), vs[j]? = some u → xs[j]? = some z → u.leaf = true ∧ RelI imm H u z := by
  induction h with
  | nil => intro j u z h; simp at h
  | cons hl h _ ih =>
    intro j u z hu hz
    cases j with
    | zero => simp at hu hz; subst hu hz; exact ⟨hl, h⟩
    | succ j => exact ih j u z (by simpa using hu) (by simpa using hz)
theorem Rels.all {vs : List V} {xs : List Value} (h : Rels imm H vs xs) : ∀ u ∈ vs, u.leaf = true := by
  induction h with
  | nil => intro u hu; simp at hu
  | cons hl h _ ih => intro u hu; rcases List.mem_cons.1 hu with rfl | hu; exact hl; exact ih u hu
end
section
variable {P : Program} {w : World} {H : Type} {enc : TypeId × Value → H}
theorem fields_rel {imm : Nat → Nat → Prop} {Hp : Array Go.Obj} {cs : List Value} : ∀ (fs : List Field) (off n : Nat), consec P fs off n = true → cs.length = n →
    (∀ f ∈ fs, ∃ vs, HasC P [f.type] vs ∧ Rels imm Hp vs ((cs.drop f.offset).take (P.cellsOf f.type))) → ∃ vs, HasC P (fs.map (·.type)) vs ∧ Rels imm Hp vs (cs.drop off) := by
  intro fs
  induction fs with
  | nil =>
    intro off n hc hl _
    simp [consec] at hc
    refine ⟨[], .nil, ?_⟩
    rw [List.drop_eq_nil_of_le (by omega)]
    exact .nil
  | cons f fs ih =>
    intro off n hc hl hf
    simp [consec] at hc
    obtain ⟨vs, h1, h2⟩ := hf f (by simp)
    obtain ⟨ws, h3, h4⟩ := ih _ _ hc.2 hl fun g hg => hf g (by simp [hg])
    refine ⟨vs ++ ws, h1.append h3, ?_⟩
    rw [hc.1] at h2
    have := h2.append h4
    rwa [← List.drop_drop, List.take_append_drop] at this
theorem elems_rel {imm : Nat → Nat → Prop} {Hp : Array Go.Obj} {cs : List Value} {e : TypeId} : ∀ (n i : Nat), cs.length = (i + n) * P.cellsOf e →
    (∀ j, j < i + n → ∃ vs, HasC P [e] vs ∧ Rels imm Hp vs ((cs.drop (j * P.cellsOf e)).take (P.cellsOf e))) → ∃ vs, HasC P (List.replicate n e) vs ∧ Rels imm Hp vs (cs.drop (i * P.cellsOf e)) := by
  intro n
  induction n with
  | zero =>
    intro i hl _
    refine ⟨[], .nil, ?_⟩
    rw [List.drop_eq_nil_of_le (by simpa using Nat.le_of_eq hl)]
    exact .nil
  | succ n ih =>
    intro i hl hf
    obtain ⟨vs, h1, h2⟩ := hf i (by omega)
    obtain ⟨ws, h3, h4⟩ := ih (i + 1) (by rw [hl]; congr 1; omega) fun j hj => hf j (by omega)
    refine ⟨vs ++ ws, h1.append h3, ?_⟩
    have := h2.append h4
    rwa [Nat.add_mul, Nat.one_mul, ← List.drop_drop, List.take_append_drop] at this
theorem env0_imm {Hp : Array Go.Obj} {b k : Nat} {y : Value} (h : cellAt Hp b k = some y) : (env0 Hp).imm b k := by
  unfold cellAt at h
  split at h
  · rename_i hb
    unfold Env.imm env0
    simp only
    rw [if_pos (lt_of_getElem?' hb)]
    trivial
  · cases h
theorem imm_env0 {Hp : Array Go.Obj} {b k : Nat} (h : b < Hp.size) : (env0 Hp).imm b k := by
  unfold Env.imm env0
  simp only
  rw [if_pos h]
  trivial
theorem trod_rel {base : Nat} {spare : Nat → Bool} {held : Bool} (hspare : ∀ b, spare b = true) : ∀ (n d : Nat) (sl : Bool) (t : TypeId) (cs : List Value) (x : DataW H × List MemPlace), argT P d sl t = true →
    DataW.trod enc P w base spare held n t cs = some x → ∃ vs, HasC P [t] vs ∧ Rels (env0 w.heap).imm w.heap vs cs := by
  intro n
  induction n with
  | zero => intro d sl t cs x _ h; simp [DataW.trod] at h
  | succ n ih =>
    intro d sl t cs x ha h
    cases d with
    | zero => simp [argT] at ha
    | succ d =>
      unfold argT at ha
      split at ha
      · rename_i ht
        obtain ⟨b, rfl, _⟩ := DataW.trod_bool ht h
        exact ⟨_, .bool b ht .nil, .cons rfl (.bool b) .nil⟩
      · rename_i ht
        obtain ⟨s, rfl, _, hs⟩ := DataW.trod_string ht h
        have e : s = ⟨s.data.toList.toArray⟩ := by cases s; rfl
        refine ⟨[.str s.data.toList], .str _ ht (by have h0 : s.data.toList.length = s.size := Array.length_toList; rw [h0]; exact hs) .nil, .cons rfl ?_ .nil⟩
        conv => rhs; rw [e]
        exact .str _
      · rename_i k ht
        obtain ⟨z, rfl, _, hw⟩ := DataW.trod_int ht h
        exact ⟨_, .int k z ht hw .nil, .cons rfl (.int k z) .nil⟩
      · rename_i e ht
        simp only [Bool.and_eq_true, bne_iff_ne, ne_eq] at ha
        obtain ⟨⟨hsz, hne⟩, hae⟩ := ha
        rcases DataW.trod_slice ht h with ⟨rfl, _⟩ | ⟨a, len, cap, elems, rest, m, hm, rfl, _, hb, hl, hcap, hel, hread, hrest, _⟩
        · exact ⟨_, .slice [] ht (Nat.zero_le _) (fun x h => by cases h) (fun x h => by cases h) .nil, .cons rfl (isl_of (Elems.nil _ _ _ _) (Nat.le_refl _) (fun _ => rfl) (fun ad h => by cases h) (fun ad k h => by cases h)) .nil⟩
        · cases hm
          have hspot : cap ≠ 0 → a.spot = none := by
            intro hc0
            have h0 : ∃ y, (w.cells? base (a.add (0 * P.cellsOf e)) (P.cellsOf e)).bind (DataW.trod enc P w base spare held n e) = some y := by
              rcases Nat.eq_zero_or_pos len with h0 | h0
              · obtain ⟨hr1, hr2⟩ := hrest (hspare _)
                have := hr2 0 (by omega)
                obtain ⟨y, hy⟩ := exists_getElem? (l := rest) (i := 0) (by omega)
                rw [hy, show len + 0 = 0 by omega] at this
                exact ⟨_, this⟩
              · have := hread 0 h0
                obtain ⟨y, hy⟩ := exists_getElem? (l := elems) (i := 0) (by omega)
                rw [hy] at this
                exact ⟨_, this⟩
            obtain ⟨y, hy⟩ := h0
            rw [Option.bind_eq_some_iff] at hy
            obtain ⟨cs', h1, _⟩ := hy
            obtain ⟨_, h5, h6⟩ := World.cells?_some h1
            have h7 := h6 0 (by omega)
            obtain ⟨z, hz⟩ := exists_getElem? (l := cs') (i := 0) (by omega)
            rw [hz] at h7
            simp only [Addr.add, Nat.zero_mul, if_true] at h7
            unfold World.cell? at h7
            split at h7
            · split at h7
              · cases h7
              · rename_i hs
                simpa using hs
            · cases h7
          have hone : ∀ i, i < len → ∃ vs cs', HasC P [e] vs ∧ w.cells? base (a.add (i * P.cellsOf e)) (P.cellsOf e) = some cs' ∧ Rels (env0 w.heap).imm w.heap vs cs' := by
            intro i hi
            have := hread i hi
            rw [List.getElem?_eq_getElem (by omega), Option.bind_eq_some_iff] at this
            obtain ⟨cs', h1, h2⟩ := this
            obtain ⟨vs, h3, h4⟩ := ih d sl e cs' _ hae h2
            exact ⟨vs, cs', h3, h1, h4⟩
          let mk : List V → V := fun vs => if aggT P e = true then .agg vs else vs.headD .nil
          have hmk : ∀ vs, HasC P [e] vs → (mk vs).cells = vs ∧ (aggT P e = true → ∃ cs, mk vs = .agg cs) ∧ (aggT P e = false → (mk vs).leaf = true) := by
            intro vs hv
            by_cases hg : aggT P e = true
            · simp only [mk, hg, if_true]
              exact ⟨rfl, fun _ => ⟨_, rfl⟩, fun h => by cases h⟩
            · have hg' : aggT P e = false := by simpa using hg
              simp only [mk, hg', if_neg (by decide : ¬ (false = true))]
              cases hv with
              | bool b _ hs => cases hs; exact ⟨rfl, fun h => (by cases h), fun _ => rfl⟩
              | int _ _ _ _ hs => cases hs; exact ⟨rfl, fun h => (by cases h), fun _ => rfl⟩
              | str _ _ _ hs => cases hs; exact ⟨rfl, fun h => (by cases h), fun _ => rfl⟩
              | slice _ _ _ _ _ hs => cases hs; exact ⟨rfl, fun h => (by cases h), fun _ => rfl⟩
              | struct fs h _ _ => simp [aggT, h, isAggD] at hg'
              | array _ _ h _ _ => simp [aggT, h, isAggD] at hg'
          let es : List V := (List.range len).map fun i => if hi : i < len then mk (Classical.choose (hone i hi)) else .nil
          have hlen : es.length = len := by simp [es]
          have hget : ∀ i u, es[i]? = some u → ∃ vs cs', u = mk vs ∧ HasC P [e] vs ∧ w.cells? base (a.add (i * P.cellsOf e)) (P.cellsOf e) = some cs' ∧ Rels (env0 w.heap).imm w.heap vs cs' := by
            intro i u hu
            have hi : i < len := by have := lt_of_getElem? hu; omega
            obtain ⟨cs', h1⟩ := Classical.choose_spec (hone i hi)
            refine ⟨Classical.choose (hone i hi), cs', ?_, h1⟩
            rw [List.getElem?_eq_getElem (by omega)] at hu
            simp only [es, List.getElem_map, List.getElem_range, dif_pos hi, Option.some.injEq] at hu
            exact hu.symm
          have hmem : ∀ u ∈ es, ∃ vs cs', u = mk vs ∧ HasC P [e] vs ∧ cs'.length = P.cellsOf e ∧ Rels (env0 w.heap).imm w.heap vs cs' := by
            intro u hu
            obtain ⟨i, hi⟩ := List.getElem?_of_mem hu
            obtain ⟨vs, cs', h1, h2, h3, h4⟩ := hget i u hi
            exact ⟨vs, cs', h1, h2, (World.cells?_some h3).2.1, h4⟩
          have hE : Elems (env0 w.heap).imm w.heap (some a) (P.cellsOf e) es := by
            refine ⟨fun u hu => ?_, fun i u j v hi hj => ?_⟩
            · obtain ⟨vs, cs', rfl, h2, h3, h4⟩ := hmem u hu
              unfold elemOk
              rw [(hmk vs h2).1]
              exact ⟨by rw [h4.length, h3], h4.all⟩
            · obtain ⟨vs, cs', rfl, h2, h3, h4⟩ := hget i u hi
              rw [(hmk vs h2).1] at hj
              obtain ⟨_, h5, h6⟩ := World.cells?_some h3
              have hjl := lt_of_getElem? hj
              rw [h4.length, h5] at hjl
              have h7 := h6 j hjl
              obtain ⟨y, hy⟩ := exists_getElem? (l := cs') (i := j) (by omega)
              refine ⟨a, y, rfl, ?_, (h4.get j v y hj hy).2⟩
              have hspot := hspot (by have := lt_of_getElem? hi; omega)
              rw [hy, cell_at (by rw [add_spot hspot]), add_spot hspot] at h7
              rw [← h7]
              congr 1
              simp only
              omega
          refine ⟨_, .slice es ht (by omega) (fun u hu => ?_) (fun u hu => ?_) .nil, .cons rfl ?_ .nil⟩
          · obtain ⟨vs, cs', rfl, h2, _⟩ := hmem u hu
            exact (hmk vs h2).2
          · obtain ⟨vs, cs', rfl, h2, _⟩ := hmem u hu
            rwa [(hmk vs h2).1]
          · have := isl_of (g := 0) (cap := cap) hE (by omega) (fun h => by cases h) (fun ad h => by cases h; exact hspot) (fun ad k h hk => by
              cases h
              have : 0 < P.cellsOf e ∧ 0 < es.length := by
                rcases Nat.eq_zero_or_pos (P.cellsOf e) with h0 | h0
                · rw [h0] at hk; omega
                · rcases Nat.eq_zero_or_pos es.length with h1 | h1
                  · rw [h1] at hk; omega
                  · exact ⟨h0, h1⟩
              obtain ⟨u, hu⟩ := exists_getElem? (l := es) this.2
              obtain ⟨he1, _⟩ := hE.1 u (List.mem_of_getElem? hu)
              obtain ⟨v, hv⟩ := exists_getElem? (l := u.cells) (i := 0) (by omega)
              obtain ⟨ad, y, h1, h2, _⟩ := hE.2 0 u 0 v hu hv
              cases h1
              have := env0_imm h2
              unfold cellAt at h2
              split at h2
              · rename_i hb2
                exact imm_env0 (lt_of_getElem?' hb2)
              · cases h2)
            rwa [hlen] at this
      · rename_i fs ht
        simp only [Bool.and_eq_true, List.all_eq_true] at ha
        obtain ⟨xs, m, hm, _, hlen, hxl, hf⟩ := DataW.trod_struct ht h
        cases hm
        obtain ⟨vs, h1, h2⟩ := fields_rel (imm := (env0 w.heap).imm) (Hp := w.heap) fs.toList 0 _ ha.1 hlen fun f hfm => by
          obtain ⟨i, hi⟩ := List.getElem?_of_mem hfm
          have hi' : fs[i]? = some f := by simpa using hi
          have hlt : i < xs.length := by rw [hxl]; simpa using lt_of_getElem? hi
          have := hf i f hi'
          rw [List.getElem?_eq_getElem hlt] at this
          exact ih d sl f.type _ _ (ha.2 f hfm) this
        refine ⟨vs ++ [], .struct fs ht h1 .nil, ?_⟩
        simpa using h2
      · rename_i k e ht
        simp only [Bool.and_eq_true, beq_iff_eq] at ha
        obtain ⟨xs, m, hm, _, hlen, hxl, hf⟩ := DataW.trod_array ht h
        cases hm
        obtain ⟨vs, h1, h2⟩ := elems_rel (imm := (env0 w.heap).imm) (Hp := w.heap) (cs := cs) (P := P) (e := e) k 0 (by rw [hlen, ha.1, Nat.zero_add]) fun j hj => by
          have := hf j (by omega)
          rw [List.getElem?_eq_getElem (by omega)] at this
          exact ih d sl e _ _ ha.2 this
        refine ⟨vs ++ [], .array k e ht h1 .nil, ?_⟩
        simpa using h2
      · cases ha
end
end Go.Vq
namespace Go.Vq
open Go.ChangeShapes
section
variable {P : Program} {w w' : World} {H : Type} {enc : TypeId × Value → H}
theorem trod_spare {base : Nat} {sp : Nat → Bool} {held : Bool} : ∀ (n d : Nat) (sl : Bool) (t : TypeId) (cs : List Value) (x : DataW H × List MemPlace), argT P d sl t = true →
    DataW.trod enc P w base (fun _ => true) held n t cs = some x → (∀ p ∈ x.2, sp p.block = true) → DataW.trod enc P w base sp held n t cs = some x := by
  intro n
  induction n with
  | zero => intro d sl t cs x _ h; simp [DataW.trod] at h
  | succ n ih =>
    intro d sl t cs x ha h hs
    cases d with
    | zero => simp [argT] at ha
    | succ d =>
      unfold argT at ha
      split at ha
      · rename_i ht
        obtain ⟨b, rfl, rfl⟩ := DataW.trod_bool ht h
        simp [DataW.trod, ht]
      · rename_i ht
        obtain ⟨s, rfl, rfl, hl⟩ := DataW.trod_string ht h
        rw [DataW.trod_step]
        unfold DataW.trodStep
        simp only [ht, if_pos hl]
      · rename_i k ht
        obtain ⟨z, rfl, rfl, hw⟩ := DataW.trod_int ht h
        simp [DataW.trod, ht, hw]
      · rename_i e ht
        simp only [Bool.and_eq_true, bne_iff_ne, ne_eq] at ha
        obtain ⟨⟨hsz, hne⟩, hae⟩ := ha
        rcases DataW.trod_slice ht h with ⟨rfl, rfl⟩ | ⟨a, len, cap, _, _, _, _, rfl, _⟩
        · simp [DataW.trod, ht]
        · rw [DataW.trod_step] at h ⊢
          unfold DataW.trodStep at h ⊢
          simp only [ht] at h ⊢
          split at h
          · rename_i hc
            rw [if_pos hc]
            simp only [Option.map_eq_some_iff, Option.bind_eq_some_iff, if_true] at h ⊢
            obtain ⟨elems, hel, rest, hrest, rfl⟩ := h
            have one : ∀ (i : Nat) (y : DataW H × List MemPlace), y ∈ elems ++ rest → ((w.cells? base (a.add (i * P.cellsOf e)) (P.cellsOf e)).bind (DataW.trod enc P w base (fun _ => true) held n e)) = some y →
                ((w.cells? base (a.add (i * P.cellsOf e)) (P.cellsOf e)).bind (DataW.trod enc P w base sp held n e)) = some y := by
              intro i y hy hv
              simp only [Option.bind_eq_some_iff] at hv ⊢
              obtain ⟨cs', hc', hy'⟩ := hv
              refine ⟨cs', hc', ih d sl e _ _ hae hy' fun p hp => hs p ?_⟩
              simp only [List.mem_append, List.mem_flatMap]
              right
              exact ⟨y, by simpa using hy, hp⟩
            refine ⟨elems, mapM_carry hel (fun i y hi hy => one i y (by simp [hy])), rest, ?_, rfl⟩
            have hlen : elems.length = len := by simpa using mapM_some_length hel
            have hrl : rest.length = cap - len := by simpa using mapM_some_length hrest
            split
            · exact mapM_carry hrest (fun j y hj hy => one (len + j) y (by simp [hy]))
            · rename_i hsp
              have : (elems.length + rest.length) * P.cellsOf e = 0 := by
                rcases Nat.eq_zero_or_pos ((elems.length + rest.length) * P.cellsOf e) with h0 | h0
                · exact h0
                · exfalso
                  have := hs (.cell a.block (a.off + 0)) (by
                    simp only [List.mem_append]
                    left
                    exact MemPlace.mem_row.2 ⟨0, h0, rfl⟩)
                  exact hsp this
              have h0 : elems.length + rest.length = 0 := by
                rcases Nat.mul_eq_zero.1 this with h0 | h0
                · exact h0
                · exact absurd h0 hne
              have : rest = [] := List.eq_nil_of_length_eq_zero (by omega)
              rw [this]
          · cases h
      · rename_i fs ht
        simp only [Bool.and_eq_true, List.all_eq_true] at ha
        rw [DataW.trod_step] at h ⊢
        unfold DataW.trodStep at h ⊢
        simp only [ht] at h ⊢
        split at h
        · rename_i hc
          rw [if_pos hc]
          simp only [Option.map_eq_some_iff] at h ⊢
          obtain ⟨xs, hx, rfl⟩ := h
          exact ⟨xs, mapM_carry hx (fun f y hf hy hv => ih d sl f.type _ _ (ha.2 f hf) hv fun p hp => hs p (List.mem_flatMap.2 ⟨y, hy, hp⟩)), rfl⟩
        · cases h
      · rename_i k e ht
        simp only [Bool.and_eq_true, beq_iff_eq] at ha
        rw [DataW.trod_step] at h ⊢
        unfold DataW.trodStep at h ⊢
        simp only [ht] at h ⊢
        split at h
        · rename_i hc
          rw [if_pos hc]
          simp only [Option.map_eq_some_iff] at h ⊢
          obtain ⟨xs, hx, rfl⟩ := h
          exact ⟨xs, mapM_carry hx (fun f y _ hy hv => ih d sl _ _ _ ha.2 hv fun p hp => hs p (List.mem_flatMap.2 ⟨y, hy, hp⟩)), rfl⟩
        · cases h
      · cases ha
theorem Still.sameAt {p : MemPlace} (h : Still w w') (hp : p.block < w.heap.size) : w.sameAt w' p := by
  have hk := h.kept.2.2 p.block hp
  cases p with
  | cell b off =>
    simp only [MemPlace.block] at hp hk
    simp only [World.sameAt, World.cell?]
    cases h1 : w.heap[b]? with
    | none => rw [Array.getElem?_eq_getElem hp] at h1; cases h1
    | some o =>
      rw [h1] at hk
      cases h2 : w'.heap[b]? with
      | none => rw [h2] at hk; cases o <;> simp_all
      | some o' =>
        rw [h2] at hk
        cases o <;> cases o' <;> simp_all
  | map b =>
    simp only [MemPlace.block] at hp hk
    simp only [World.sameAt]
    cases h1 : w.heap[b]? with
    | none => rw [Array.getElem?_eq_getElem hp] at h1; cases h1
    | some o =>
      rw [h1] at hk
      cases h2 : w'.heap[b]? with
      | none => rw [h2] at hk; cases o <;> simp_all
      | some o' =>
        rw [h2] at hk
        cases o <;> cases o' <;> simp_all
        · obtain ⟨rfl, rfl, hsz, hc⟩ := hk
          congr 1
          exact Array.ext_getElem? hc
theorem trodAll_still {held : Bool} {sp : Nat → Bool} (hS : Still w w') : ∀ {ts : List TypeId} {vs : List Value} {ds : List (DataW H)} {ps : List MemPlace}, (∀ t ∈ ts, ∃ d, argT P d true t = true) →
    DataW.TrodAll enc P w 0 (fun _ => true) held ts vs ds ps → (∀ p ∈ ps, p.block < w.heap.size) → (∀ p ∈ ps, sp p.block = true) → DataW.TrodAll enc P w' 0 sp held ts vs ds ps
  | [], _, _, _, _, h, _, _ => by
    obtain ⟨rfl, rfl, rfl⟩ := trodAll_nil h
    exact trodAll_mk0
  | t :: ts, _, _, _, hts, h, hlt, hsp => by
    obtain ⟨v, vs1, d, ds1, a, c, rfl, rfl, rfl, ⟨n, h1⟩, h2⟩ := trodAll_cons h
    obtain ⟨dd, hd⟩ := hts t (by simp)
    refine trodAll_cons_mk ⟨n, trod_spare n dd true t _ _ hd (DataW.trod_carry n t _ _ h1 fun p hp => hS.sameAt (hlt p (by simp; exact .inl hp))) fun p hp => hsp p (by simp; exact .inl hp)⟩ ?_
    exact trodAll_still hS (fun t ht => hts t (by simp [ht])) h2 (fun p hp => hlt p (by simp [hp])) (fun p hp => hsp p (by simp [hp]))
theorem cell_spot {r : Reach} {base : Nat} {u : TypeId} {a : Addr} {l c : Nat} (h : Cell.okWide P w r base u (.slice (some a) l c)) : a.spot = none := by
  unfold Cell.okWide at h
  split at h <;> simp_all [Cell.ok]
  split at h <;> simp_all
  exact h.2.2.2.1
theorem okWide_agg {r : Reach} {base : Nat} {t : TypeId} {v : Value} (h : Value.okWide P w r base t v) (ha : aggT P t = true) : ∃ cs, v = .agg cs ∧ ∀ a l c, Value.slice (some a) l c ∈ cs.toList → a.spot = none := by
  have h' : ∃ cs, v = .agg cs ∧ cs.size = P.cellsOf t ∧ Row.okWide P w r base t cs := by
    unfold aggT at ha
    unfold Value.okWide at h
    cases hu : P.underlying t with
    | none => rw [hu] at ha; cases ha
    | some dsc =>
      rw [hu] at ha h
      cases dsc <;> first | exact h | cases ha
  obtain ⟨cs, rfl, _, ts, _, _, hc⟩ := h'
  refine ⟨cs, rfl, fun a l c hm => ?_⟩
  obtain ⟨i, hi, e⟩ := Array.mem_iff_getElem.1 (Array.mem_toList_iff.1 hm)
  obtain ⟨u, _, hu⟩ := hc i (.slice (some a) l c) (by rw [Array.getElem?_eq_getElem hi, e])
  exact cell_spot hu
theorem okWide_leaf {r : Reach} {base d : Nat} {sl : Bool} {t : TypeId} {v : Value} (h : Value.okWide P w r base t v) (ha : aggT P t = false) (ht : argT P d sl t = true) : aggX v = false ∧ ∀ a l c, v = .slice (some a) l c → a.spot = none := by
  have hc : Cell.okWide P w r base t v := by
    unfold aggT at ha
    unfold Value.okWide at h
    split at h <;> simp_all [isAggD]
  refine ⟨?_, fun a l c e => by subst e; exact cell_spot hc⟩
  cases v with
  | agg cs =>
    exfalso
    cases hu : P.underlying t with
    | none => simp_all [Cell.okWide, Cell.ok]
    | some dsc => cases dsc <;> simp_all [Cell.okWide, Cell.ok]
  | _ => rfl
inductive HasTs (P : Program) : List TypeId → List V → Prop
  | nil : HasTs P [] []
  | cons {t : TypeId} {v : V} {ts : List TypeId} {vs : List V} (h : HasT P t v) (hs : HasTs P ts vs) : HasTs P (t :: ts) (v :: vs)
theorem args_rel {held : Bool} {r : Reach} {base : Nat} : ∀ {ts : List TypeId} {vs : List Value} {ds : List (DataW H)} {ps : List MemPlace}, (∀ t ∈ ts, ∃ d, argT P d true t = true) →
    DataW.TrodAll enc P w 0 (fun _ => true) held ts vs ds ps → (∀ (j : Nat) (t : TypeId) (v : Value), ts[j]? = some t → vs[j]? = some v → Value.okWide P w r base t v) →
    ∃ us : List V, Args w us vs ∧ HasTs P ts us
  | [], _, _, _, _, h, _ => by
    obtain ⟨rfl, rfl, rfl⟩ := trodAll_nil h
    exact ⟨[], .nil w, .nil⟩
  | t :: ts, _, _, _, hts, h, hok => by
    obtain ⟨v, vs1, d, ds1, a, c, rfl, rfl, rfl, ⟨n, h1⟩, h2⟩ := trodAll_cons h
    obtain ⟨dd, hd⟩ := hts t (by simp)
    obtain ⟨us, h3, h4⟩ := args_rel (fun t ht => hts t (by simp [ht])) h2 (fun j t v ht hv => hok (j + 1) t v (by simpa using ht) (by simpa using hv))
    have h0 := hok 0 t v rfl rfl
    cases hg : aggT P t with
    | true =>
      obtain ⟨cs, rfl, hsp⟩ := okWide_agg h0 hg
      obtain ⟨ws, h5, h6⟩ := trod_rel (fun _ => rfl) n dd true t _ _ hd h1
      refine ⟨.agg ws :: us, .cons ⟨⟨cs, rfl, h6.length⟩, fun j u z hu hz => h6.get j u z hu hz⟩ h3, .cons ⟨fun _ => ⟨_, rfl⟩, fun h => absurd (hg.symm.trans h) (by decide), h5⟩ h4⟩
    | false =>
      obtain ⟨hx, hsp⟩ := okWide_leaf h0 hg hd
      have hcells : v.cells.toList = [v] := by cases v <;> first | rfl | cases hx
      rw [hcells] at h1
      obtain ⟨ws, h5, h6⟩ := trod_rel (fun _ => rfl) n dd true t _ _ hd h1
      have hl := h6.length
      cases h6 with
      | cons hl1 hr hn =>
        rename_i u us'
        cases hn
        refine ⟨u :: us, .cons (relE_leaf hl1 hr) h3, .cons ⟨fun h => (by rw [hg] at h; cases h), fun _ => hl1, ?_⟩ h4⟩
        rwa [cells_leaf hl1]
end
theorem trodAll_len {H : Type} {enc : TypeId × Value → H} {P : Program} {w : World} {base : Nat} {sp : Nat → Bool} {held : Bool} : ∀ {ts : List TypeId} {vs : List Value} {ds : List (DataW H)} {ps : List MemPlace}, DataW.TrodAll enc P w base sp held ts vs ds ps → ds.length = ts.length
  | [], _, _, _, h => by
    obtain ⟨rfl, rfl, rfl⟩ := trodAll_nil h
    rfl
  | t :: ts, _, _, _, h => by
    obtain ⟨v, vs1, d, ds1, a, c, rfl, rfl, rfl, _, h2⟩ := trodAll_cons h
    simp [trodAll_len h2]
open Go.WideShapes Go.ChangeShapes Go.RowKit in
theorem post_args {H : Type} {enc : TypeId × Value → H} {P : Program} {f : Func} {s : ChangeSpec} {apart fresh handsOn again : Bool} {W W' : World} {args : Array Value} {ds gs : List (DataW H)} {before : List MemPlace} {tb : TypeId} (d : Nat)
    (hW : DataW.Whole enc P f.params.toList s.vars apart W args.toList ds gs before) (hS : Still W W') (hty : (f.params.toList.all fun t => argT P d true t) = true)
    (hv : s.vars = []) (hf : ∀ l : List (DataW H), l.length = f.params.size → s.fn H l = ⟨[.lit (.bool true)], l, []⟩) (hr : f.resultTypes = #[tb]) (hb : P.underlying tb = some .bool) :
    s.post enc P f apart fresh handsOn again W args (.bool true) W' := by
  have hlt := hW.lt
  obtain ⟨pa, pv, hA, hV, rfl, hz, hn⟩ := id hW
  rw [hv] at hV
  obtain ⟨rfl, rfl⟩ := trodVars_none hV
  simp only [List.append_nil] at hW hlt
  have hty' : ∀ t ∈ f.params.toList, ∃ d, argT P d true t = true := fun t ht => ⟨d, List.all_eq_true.1 hty t ht⟩
  have hdl : (ds ++ []).length = f.params.size := by rw [List.append_nil, trodAll_len hA]; simp
  refine post_still (pa := pa) (pv := []) hW (fun b sp hd => ?_) (fun sp hsp => ?_) (fun sp _ => ?_) (by simp) hS (ok_one hr rfl (okWide_bool_mk hb _))
  · rw [hf _ hdl, hr]
    exact trodAll_cons_mk (p' := []) (shut_bool hb _) trodAll_mk0
  · rw [hf _ hdl]
    simp only [List.append_nil]
    exact trodAll_still hS hty' hA hlt hsp
  · rw [hf _ hdl, hv]
    show DataW.TrodVars enc P W' sp [] [] []
    rfl
section
variable {P : Program} {t e : TypeId} {v : V}
theorem HasTs.inv {ts : List TypeId} {vs : List V} (h : HasTs P (t :: ts) vs) : ∃ v us, vs = v :: us ∧ HasT P t v ∧ HasTs P ts us := by
  cases h with
  | cons h hs => exact ⟨_, _, rfl, h, hs⟩
theorem HasTs.inv_nil {vs : List V} (h : HasTs P [] vs) : vs = [] := by cases h; rfl
theorem aggT_of {d : TypeDesc} (h : P.underlying t = some d) : aggT P t = isAggD d := by simp [aggT, h]
theorem HasT.int {k : IntKind} (ht : P.underlying t = some (.int k)) (h : HasT P t v) : ∃ n, v = .int k n ∧ (Lit.int k n).wf = true := by
  obtain ⟨n, ws, h1, h2, h3⟩ := (h.leaf (by rw [aggT_of ht]; rfl)).inv_int ht
  cases h1
  exact ⟨n, rfl, h2⟩
theorem HasT.str (ht : P.underlying t = some .string) (h : HasT P t v) : ∃ s, v = .str s ∧ s.length ≤ maxLen := by
  obtain ⟨n, ws, h1, h2, h3⟩ := (h.leaf (by rw [aggT_of ht]; rfl)).inv_str ht
  cases h1
  exact ⟨n, rfl, h2⟩
theorem HasT.slice (ht : P.underlying t = some (.slice e)) (h : HasT P t v) : ∃ es, v = .isl 0 (P.cellsOf e) es ∧ es.length ≤ maxLen ∧ ∀ x ∈ es, HasT P e x := by
  obtain ⟨n, ws, h1, h2, h3, h4⟩ := (h.leaf (by rw [aggT_of ht]; rfl)).inv_slice ht
  cases h1
  exact ⟨n, rfl, h2, h3⟩
end
end Go.Vq
namespace Go.Vq
theorem z1 (σ : St) (s : Nat) (v : V) : σ.setS s v = { σ with slots := σ.slots.set s v } := rfl
theorem z2 (σ : St) (s : Nat) : σ.slot s = σ.slots.getD s (.gone 0) := rfl
theorem z3 (σ : St) (o : Nat) (x : Option Obj) : σ.setO o x = { σ with objs := σ.objs.set o x } := rfl
theorem z4 (σ : St) (o : Nat) : σ.obj o = σ.objs.getD o none := rfl
section
variable {α : Type}
theorem z5 (a : α) (l : List α) (n : Nat) (x : α) : (a :: l).set (n + 1) x = a :: l.set n x := rfl
theorem z6 (a : α) (l : List α) (x : α) : (a :: l).set 0 x = x :: l := rfl
theorem z7 (a : α) (l : List α) (n : Nat) (d : α) : (a :: l).getD (n + 1) d = l.getD n d := rfl
theorem z8 (a : α) (l : List α) (d : α) : (a :: l).getD 0 d = a := rfl
theorem z9 (a : α) (l : List α) (d : α) : (a :: l).headD d = a := rfl
theorem z10 (a : α) (l : List α) : (a :: l).length = l.length + 1 := rfl
theorem z11 : ([] : List α).length = 0 := rfl
theorem z12 (a : α) (l : List α) (n : Nat) : (a :: l).take (n + 1) = a :: l.take n := rfl
theorem z13 (l : List α) : l.take 0 = [] := by cases l <;> rfl
theorem z14 (a : α) (l : List α) (n : Nat) : (a :: l).drop (n + 1) = l.drop n := rfl
theorem z15 (l : List α) : l.drop 0 = l := by cases l <;> rfl
theorem z16 (a : α) (l r : List α) : (a :: l) ++ r = a :: (l ++ r) := rfl
theorem z17 (l : List α) : [] ++ l = l := rfl
theorem z18 (l : List α) : l ++ [] = l := List.append_nil l
end
end Go.Vq
namespace Go.Vq
def byN (l : List Nat) : List V := l.map fun (x : Nat) => V.int .u8 (x : Int)
section
variable {cal : Callee} {its : FuncId → Iter} {again : Nat → VCode → St → Option (Out × St)} {base : Nat} {σ σ1 : St} {Q : Out → St → Prop}
def W (cal : Callee) (its : FuncId → Iter) (again : Nat → VCode → St → Option (Out × St)) (base : Nat) (c : VCode) (σ : St) (Q : Out → St → Prop) : Prop := ∃ o s, step cal its again base c σ = some (o, s) ∧ Q o s
def WO (cal : Callee) (base : Nat) (ops : List VOper) (σ : St) (Q : St → Prop) : Prop := ∃ s, runOps cal base ops σ = some s ∧ Q s
def WD (cal : Callee) (base : Nat) (ops : List VOper) (done : List (List Loc × List Loc)) (σ : St) (Q : St → Prop) : Prop := ∃ s, runDraw cal base ops done σ = some s ∧ Q s
def Qseq (cal : Callee) (its : FuncId → Iter) (again : Nat → VCode → St → Option (Out × St)) (base : Nat) (b : VCode) (Q : Out → St → Prop) : Out → St → Prop
  | .normal, s => W cal its again base b s Q
  | o, s => Q o s
def Qblk (base id : Nat) (keep : Option (List Nat)) (Q : Out → St → Prop) : Out → St → Prop
  | .exit id', s => if id' = id then Q .normal (rebase? keep base s) else Q (.exit id') s
  | .normal, s => Q .normal (rebase? keep base s)
  | .ret, s => Q .ret s
theorem W_skip (h : Q .normal σ) : W cal its again base .skip σ Q := ⟨_, _, rfl, h⟩
theorem W_ret (h : Q .ret σ) : W cal its again base .ret σ Q := ⟨_, _, rfl, h⟩
theorem W_exit {id : Nat} (h : Q (.exit id) σ) : W cal its again base (.exit id) σ Q := ⟨_, _, rfl, h⟩
theorem W_seq {a b : VCode} (h : W cal its again base a σ (Qseq cal its again base b Q)) : W cal its again base (.seq a b) σ Q := by
  obtain ⟨o, s, h1, h2⟩ := h
  cases o with
  | normal => obtain ⟨o', s', h3, h4⟩ := h2; exact ⟨o', s', step_seq h1 h3, h4⟩
  | _ => exact ⟨_, _, step_seq_out h1 (by intro e; cases e), h2⟩
theorem W_cond {c : Opd} {a b : VCode} {t : Bool} (hc : condV c σ = some t) (h1 : t = true → W cal its again base a σ Q) (h2 : t = false → W cal its again base b σ Q) : W cal its again base (.cond c a b) σ Q := by
  cases t with
  | true => obtain ⟨o, s, h3, h4⟩ := h1 rfl; exact ⟨o, s, step_true hc h3, h4⟩
  | false => obtain ⟨o, s, h3, h4⟩ := h2 rfl; exact ⟨o, s, step_false hc h3, h4⟩
theorem W_condD {c : Opd} {a b : VCode} {p : Prop} [Decidable p] (hc : condV c σ = some (decide p)) (h1 : p → W cal its again base a σ Q) (h2 : ¬p → W cal its again base b σ Q) : W cal its again base (.cond c a b) σ Q :=
  W_cond hc (fun h => h1 (of_decide_eq_true h)) (fun h => h2 (of_decide_eq_false h))
theorem W_condT {c : Opd} {a b : VCode} (hc : condV c σ = some true) (h : W cal its again base a σ Q) : W cal its again base (.cond c a b) σ Q := W_cond hc (fun _ => h) (fun e => by cases e)
theorem W_condF {c : Opd} {a b : VCode} (hc : condV c σ = some false) (h : W cal its again base b σ Q) : W cal its again base (.cond c a b) σ Q := W_cond hc (fun e => by cases e) (fun _ => h)
theorem W_region {ops : List VOper} (h : WO cal base ops σ (Q .normal)) : W cal its again base (.region ops false) σ Q := by
  obtain ⟨s, h1, h2⟩ := h; exact ⟨_, s, step_region h1, h2⟩
theorem W_draw {ops : List VOper} (h : WD cal base ops [] σ (Q .normal)) : W cal its again base (.region ops true) σ Q := by
  obtain ⟨s, h1, h2⟩ := h; exact ⟨_, s, step_draw h1, h2⟩
theorem WO_nil {Q : St → Prop} (h : Q σ) : WO cal base [] σ Q := ⟨_, rfl, h⟩
theorem WO_cons {Q : St → Prop} {o : VOper} {os : List VOper} (h : (o.prog cal base).run σ = some σ1) (h2 : WO cal base os σ1 Q) : WO cal base (o :: os) σ Q := by
  obtain ⟨s, h3, h4⟩ := h2; exact ⟨s, runOps_cons h h3, h4⟩
theorem WD_nil {Q : St → Prop} {done : List (List Loc × List Loc)} (h : Q σ) : WD cal base [] done σ Q := ⟨_, rfl, h⟩
theorem WD_cons {Q : St → Prop} {o : VOper} {os : List VOper} {done : List (List Loc × List Loc)} {f : List Loc × List Loc} (hf : (o.prog cal base).foot σ = f) (hc : clashes o.before f 0 done = false)
    (h : (o.prog cal base).run σ = some σ1) (h2 : WD cal base os (done ++ [f]) σ1 Q) : WD cal base (o :: os) done σ Q := by
  obtain ⟨s, h3, h4⟩ := h2; exact ⟨s, runDraw_cons hf hc h h3, h4⟩
theorem W_block {id : Nat} {keep : Option (List Nat)} {a : VCode} (h : W cal its again base a σ (Qblk base id keep Q)) : W cal its again base (.block id keep a) σ Q := by
  obtain ⟨o, s, h1, h2⟩ := h
  cases o with
  | normal => exact ⟨_, _, step_block h1 rfl, h2⟩
  | ret => exact ⟨_, _, step_block_ret h1, h2⟩
  | exit i =>
    simp only [Qblk] at h2
    split at h2
    · rename_i e; subst e; exact ⟨_, _, step_block_exit h1 rfl, h2⟩
    · rename_i e; exact ⟨_, _, step_block_out h1 e, h2⟩
theorem Qs_n {b : VCode} (h : W cal its again base b σ Q) : Qseq cal its again base b Q .normal σ := h
theorem Qs_r {b : VCode} (h : Q .ret σ) : Qseq cal its again base b Q .ret σ := h
theorem Qs_e {b : VCode} {id : Nat} (h : Q (.exit id) σ) : Qseq cal its again base b Q (.exit id) σ := h
theorem Qb_n0 {id : Nat} (h : Q .normal σ) : Qblk base id none Q .normal σ := h
theorem Qb_x0 {id : Nat} (h : Q .normal σ) : Qblk base id none Q (.exit id) σ := by simp only [Qblk, if_true]; exact h
theorem Qb_n {id : Nat} {keep : Option (List Nat)} (hk : rebase? keep base σ = σ1) (h : Q .normal σ1) : Qblk base id keep Q .normal σ := by simp only [Qblk, hk]; exact h
theorem Qb_x {id : Nat} {keep : Option (List Nat)} (hk : rebase? keep base σ = σ1) (h : Q .normal σ1) : Qblk base id keep Q (.exit id) σ := by simp only [Qblk, if_true, hk]; exact h
theorem Qb_r {id : Nat} {keep : Option (List Nat)} (h : Q .ret σ) : Qblk base id keep Q .ret σ := h
theorem Qb_ne {id id' : Nat} {keep : Option (List Nat)} (hne : id' ≠ id) (h : Q (.exit id') σ) : Qblk base id keep Q (.exit id') σ := by simp only [Qblk, if_neg hne]; exact h
end
abbrev Z8 (n : Nat) : List V := List.replicate n (.int .u8 0)
def Qend (fn : VFunc) (base : Nat) (r : Option (V × List Obj)) : Out → St → Prop := fun o s => (o = .normal ∨ o = .ret) ∧ finish fn base s = r
theorem Qe_r {fn : VFunc} {base : Nat} {r : Option (V × List Obj)} {σ : St} (h : finish fn base σ = r) : Qend fn base r .ret σ := ⟨.inr rfl, h⟩
theorem Qe_n {fn : VFunc} {base : Nat} {r : Option (V × List Obj)} {σ : St} (h : finish fn base σ = r) : Qend fn base r .normal σ := ⟨.inl rfl, h⟩
def Qrnd {α : Type} (keep : Option (List Nat)) (base : Nat) (S : α → St) (J : α → Prop) (Q : Out → St → Prop) : Out → St → Prop := fun o s => (o = .normal ∧ ∃ b, rebase? keep base s = S b ∧ J b) ∨ (o ≠ .normal ∧ Q o s)
theorem Qr_n {α : Type} {keep : Option (List Nat)} {base : Nat} {S : α → St} {J : α → Prop} {Q : Out → St → Prop} {σ : St} (b : α) (h : rebase? keep base σ = S b) (hj : J b) : Qrnd keep base S J Q .normal σ := .inl ⟨rfl, b, h, hj⟩
theorem Qr_x {α : Type} {keep : Option (List Nat)} {base : Nat} {S : α → St} {J : α → Prop} {Q : Out → St → Prop} {σ : St} {id : Nat} (h : Q (.exit id) σ) : Qrnd keep base S J Q (.exit id) σ := .inr ⟨(by intro e; cases e), h⟩
theorem Qr_r {α : Type} {keep : Option (List Nat)} {base : Nat} {S : α → St} {J : α → Prop} {Q : Out → St → Prop} {σ : St} (h : Q .ret σ) : Qrnd keep base S J Q .ret σ := .inr ⟨(by intro e; cases e), h⟩
end Go.Vq
namespace Go.Vq
section
theorem byN_len (l : List Nat) : (byN l).length = l.length := by simp [byN]
theorem byN_cons (x : Nat) (l : List Nat) : byN (x :: l) = .int .u8 (x : Int) :: byN l := rfl
theorem byN_nil : byN [] = [] := rfl
theorem byN_app (a b : List Nat) : byN (a ++ b) = byN a ++ byN b := by simp [byN]
theorem byN_take (l : List Nat) (n : Nat) : (byN l).take n = byN (l.take n) := by simp [byN, List.map_take]
theorem byN_drop (l : List Nat) (n : Nat) : (byN l).drop n = byN (l.drop n) := by simp [byN, List.map_drop]
theorem byN_rep (n : Nat) : Z8 n = byN (List.replicate n 0) := by simp [byN]
theorem byN_set (l : List Nat) (i x : Nat) : (byN l).set i (.int .u8 (x : Int)) = byN (l.set i x) := by simp [byN, List.map_set]
theorem drop_by {c : List Nat} {n : Nat} (h : c.length = n) : (byN c).drop n = [] := List.drop_of_length_le (by rw [byN_len]; omega)
theorem exN {c : List Nat} {n : Nat} (h : c.length = n) : ∃ g : Nat → Nat, c = (List.range n).map g := by
  refine ⟨fun i => c.getD i 0, List.ext_getElem (by simp [h]) fun i h1 h2 => ?_⟩
  simp [List.getD_eq_getElem?_getD, h1]
theorem take_mapl {α : Type} (f : α → V) (l : List α) : (l.map f).take l.length = l.map f := List.take_of_length_le (by simp)
theorem settle_by (mk : Nat → Option Home) (l : List Nat) : ∀ (i : Nat) (k : List V → Prog), settle mk i (byN l) k = k (byN l) := by
  induction l with
  | nil => intro i k; rfl
  | cons x l ih => intro i k; simp only [byN_cons, settle, settle1, ih]
theorem keeps_by (mk : Nat → Option Home) (l : List Nat) : ∀ (i : Nat) (k : List V → Prog), keeps mk i (byN l) k = k (byN l) := by
  induction l with
  | nil => intro i k; rfl
  | cons x l ih => intro i k; simp only [byN_cons, keeps, keep1, ih]
theorem borrows_by (mk : Nat → Home) (l : List Nat) : ∀ (i : Nat), borrows mk i (byN l) = byN l := by
  induction l with
  | nil => intro i; rfl
  | cons x l ih => intro i; simp only [byN_cons, borrows, borrow1, ih]
theorem obj1_by (l : List Nat) : (byN l).map obj1 = byN l := by induction l with | nil => rfl | cons x l ih => simp only [byN_cons, List.map_cons, obj1, ih]
theorem freeze1_by (l : List Nat) : (byN l).map freeze1 = byN l := by induction l with | nil => rfl | cons x l ih => simp only [byN_cons, List.map_cons, freeze1, ih]
theorem regens_by : ∀ (a b : List Nat), a.length = b.length → regens (byN a) (byN b) = some (byN b)
  | [], [], _ => rfl
  | x :: a, y :: b, h => by simp only [byN_cons, regens, regen1, V.nextg, if_true, regens_by a b (by simpa using h)]; rfl
theorem regens_by0 : ∀ (b : List Nat), regens [] (byN b) = some (byN b)
  | [] => rfl
  | y :: b => by simp only [byN_cons, regens, regen1, V.nextg, if_true, regens_by0 b]; rfl
theorem inObj_by (l : List Nat) : (byN l).all V.inObj = true := by simp [byN, V.inObj]
theorem inElem_by (l : List Nat) : (byN l).all V.inElem = true := by simp [byN, V.inElem]
theorem plain_by (l : List Nat) : (byN l).all V.plain = true := by simp [byN, V.plain]
theorem here_by (l : List Nat) : V.here (.agg (byN l)) = true := by simp [V.here, byN]
theorem here_int (k : IntKind) (n : Int) (l : List V) : V.here (.agg (.int k n :: l)) = V.here (.agg l) := rfl
theorem here_bool (b : Bool) (l : List V) : V.here (.agg (.bool b :: l)) = V.here (.agg l) := rfl
theorem here_str (b : List UInt8) (l : List V) : V.here (.agg (.str b :: l)) = V.here (.agg l) := rfl
theorem here_isl (g sz : Nat) (es l : List V) : V.here (.agg (.isl g sz es :: l)) = V.here (.agg l) := rfl
theorem here_xsl (g sz : Nat) (es l : List V) : V.here (.agg (.xsl g sz es :: l)) = V.here (.agg l) := rfl
theorem here_intL (k : IntKind) (n : Int) : V.here (.int k n) = true := rfl
theorem here_boolL (b : Bool) : V.here (.bool b) = true := rfl
theorem here_strL (b : List UInt8) : V.here (.str b) = true := rfl
theorem here_islL (g sz : Nat) (es : List V) : V.here (.isl g sz es) = true := rfl
theorem here_xslL (g sz : Nat) (es : List V) : V.here (.xsl g sz es) = true := rfl
theorem here_fslL (g sz : Nat) (es : List V) : V.here (.fsl g sz es) = true := rfl
theorem here_ptrL (r : Ref) : V.here (.ptr r) = true := rfl
theorem here_nilP : V.here .nil = true := rfl
theorem here_nil : V.here (.agg []) = true := rfl
theorem hasX_by (l : List Nat) : V.hasX (.agg (byN l)) = false := by simp [V.hasX, V.leaves, byN]
theorem hasX_int (k : IntKind) (n : Int) (l : List V) : V.hasX (.agg (.int k n :: l)) = V.hasX (.agg l) := rfl
theorem hasX_bool (b : Bool) (l : List V) : V.hasX (.agg (.bool b :: l)) = V.hasX (.agg l) := rfl
theorem hasX_str (b : List UInt8) (l : List V) : V.hasX (.agg (.str b :: l)) = V.hasX (.agg l) := rfl
theorem hasX_isl (g sz : Nat) (es l : List V) : V.hasX (.agg (.isl g sz es :: l)) = V.hasX (.agg l) := rfl
theorem hasX_nil : V.hasX (.agg []) = false := rfl
theorem regens_nn : regens [] [] = some [] := rfl
theorem regens_c (o n : V) (os ns : List V) : regens (o :: os) (n :: ns) = (regen1 o n).bind fun v => (regens os ns).map (v :: ·) := by
  simp only [regens]; cases regen1 o n <;> cases regens os ns <;> rfl
theorem regens_0c (n : V) (ns : List V) : regens [] (n :: ns) = (regen1 (.gone 0) n).bind fun v => (regens [] ns).map (v :: ·) := by
  simp only [regens]; cases regen1 (.gone 0) n <;> cases regens [] ns <;> rfl
theorem regens_g0 (b : List Nat) : regens [.gone 0] (byN b) = some (byN b) := by
  cases b with
  | nil => rfl
  | cons x b => rw [byN_cons, regens_c, regens_by0]; rfl
theorem regens_bb {a b : List Nat} (h : a.length = b.length) : regens (byN a) (byN b) = some (byN b) := regens_by a b h
theorem regens_zb {c : List Nat} {n : Nat} (h : c.length = n) : regens (Z8 n) (byN c) = some (byN c) := by rw [byN_rep]; exact regens_by _ _ (by simp [h])
theorem take_by {c : List Nat} {n : Nat} (h : c.length = n) : (byN c).take n = byN c := by rw [byN_take, List.take_of_length_le (by omega)]
end
end Go.Vq
