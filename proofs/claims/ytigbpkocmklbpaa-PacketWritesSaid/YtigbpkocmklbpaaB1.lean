/- The V-level machine, run on values that are not known (no law of Go is stated here). -/
import Derived.Test.YtigbpkocmklbpaaF7
set_option linter.unusedVariables false
set_option linter.unusedSimpArgs false
namespace Go.Vq
namespace S2
open Go
set_option maxRecDepth 1000000
/-- packhorse/packet.Number -/
def b35 : VCode :=
  .seq
    (.region [{ dst := (some 4), op := .assign (.val (.nilS 1)), guard := none, before := 0 }] false)
    (.seq
      (.region [{ dst := (some 8), op := .move (.tmp 0), guard := none, before := 0 },
        { dst := (some 9), op := .call true 53 0 [(.tmp 8)], guard := none, before := 1 },
        { dst := (some 5), op := .assign (.tmp 9), guard := none, before := 3 }] false)
      (.seq
        (.seq
          (.region [{ dst := (some 10), op := .move (.tmp 1), guard := none, before := 0 },
            { dst := (some 11), op := .len (.slc 1) (.tmp 10), guard := none, before := 1 },
            { dst := (some 12), op := .move (.val (.int .i64 0)), guard := none, before := 0 }] false)
          (.block 0 (some [5]) (.loop (some [1, 5, 10, 11, 12])
              (.seq
                (.region [{ dst := (some 13), op := .bin (.lss) (.tmp 12) (.tmp 11), guard := none, before := 0 }] false)
                (.seq
                  (.cond (.tmp 13)
                    (.skip)
                    (.exit 0))
                  (.seq
                    (.block 1 (some [1, 5, 10, 11, 12]) (.seq
                        (.region [{ dst := (some 14), op := .indexAddr none 1 (.tmp 10) (.tmp 12), guard := none, before := 0 },
                          { dst := (some 15), op := .load false 1 (.tmp 14), guard := none, before := 1 },
                          { dst := (some 7), op := .assign (.tmp 15), guard := none, before := 3 }] false)
                        (.seq
                          (.block 2 (some [1, 5, 7, 10, 11, 12, 14, 15]) (.loop (some [1, 5, 7, 10, 11, 12, 14, 15])
                              (.seq
                                (.seq
                                  (.region [{ dst := (some 16), op := .move (.tmp 7), guard := none, before := 0 },
                                    { dst := (some 17), op := .bin (.geq) (.tmp 16) (.val (.int .u64 128)), guard := none, before := 1 }] false)
                                  (.cond (.tmp 17)
                                    (.skip)
                                    (.exit 2)))
                                (.seq
                                  (.block 3 none (.region [{ dst := (some 20), op := .move (.tmp 5), guard := none, before := 0 },
                                      { dst := (some 21), op := .move (.tmp 7), guard := none, before := 0 },
                                      { dst := (some 22), op := .conv (.int (.u8)) (.tmp 21), guard := none, before := 2 },
                                      { dst := (some 23), op := .bin (.or) (.tmp 22) (.val (.int .u8 128)), guard := none, before := 6 },
                                      { dst := (some 24), op := .buildSlice 1 [(.int .u8 0)] [(0, (.tmp 23))], guard := none, before := 14 },
                                      { dst := (some 25), op := .append 1 1 (.tmp 20) (.tmp 24), guard := none, before := 31 },
                                      { dst := (some 5), op := .assign (.tmp 25), guard := none, before := 63 }] false))
                                  (.region [{ dst := (some 18), op := .move (.tmp 7), guard := none, before := 0 },
                                    { dst := (some 19), op := .bin (.shr) (.tmp 18) (.val (.int .u64 7)), guard := none, before := 1 },
                                    { dst := (some 7), op := .assign (.tmp 19), guard := none, before := 3 }] false)))))
                          (.region [{ dst := (some 26), op := .move (.tmp 5), guard := none, before := 0 },
                            { dst := (some 27), op := .move (.tmp 7), guard := none, before := 0 },
                            { dst := (some 28), op := .conv (.int (.u8)) (.tmp 27), guard := none, before := 2 },
                            { dst := (some 29), op := .buildSlice 1 [(.int .u8 0)] [(0, (.tmp 28))], guard := none, before := 6 },
                            { dst := (some 30), op := .append 1 1 (.tmp 26) (.tmp 29), guard := none, before := 15 },
                            { dst := (some 5), op := .assign (.tmp 30), guard := none, before := 31 }] false))))
                    (.region [{ dst := (some 31), op := .bin (.add) (.tmp 12) (.val (.int .i64 1)), guard := none, before := 0 },
                      { dst := (some 12), op := .move (.tmp 31), guard := none, before := 1 }] false)))))))
        (.seq
          (.region [{ dst := (some 32), op := .move (.tmp 5), guard := none, before := 0 },
            { dst := (some 4), op := .assign (.tmp 32), guard := none, before := 1 }] false)
          (.ret))))
def v35 : VFunc := { nparams := 2, ntmps := 33, nsites := 0, results := [.tmp 4], body := b35 }
/-- packhorse/packhorselaw06.PacketShort -/
def b10 : VCode :=
  .seq
    (.region [{ dst := (some 4), op := .assign (.val (.bool false)), guard := none, before := 0 }] false)
    (.seq
      (.seq
        (.region [{ dst := (some 10), op := .call true 31 0 [], guard := none, before := 0 },
          { dst := (some 11), op := .un (.not) (.tmp 10), guard := none, before := 1 }] false)
        (.cond (.tmp 11)
          (.seq
            (.region [{ dst := (some 4), op := .assign (.val (.bool false)), guard := none, before := 0 }] false)
            (.ret))
          (.skip)))
      (.seq
        (.region [{ dst := (some 12), op := .move (.tmp 0), guard := none, before := 0 },
          { dst := (some 13), op := .buildSlice 1 [(.int .u64 0)] [(0, (.tmp 12))], guard := none, before := 1 },
          { dst := (some 14), op := .call true 35 0 [(.val (.nilS 1)), (.tmp 13)], guard := none, before := 3 },
          { dst := (some 15), op := .conv (.text) (.tmp 14), guard := none, before := 7 },
          { dst := (some 16), op := .move (.tmp 1), guard := none, before := 0 },
          { dst := (some 17), op := .buildSlice 1 [(.int .u64 0)] [(0, (.tmp 16))], guard := none, before := 16 },
          { dst := (some 18), op := .call true 35 0 [(.val (.nilS 1)), (.tmp 17)], guard := none, before := 55 },
          { dst := (some 19), op := .conv (.text) (.tmp 18), guard := none, before := 119 },
          { dst := (some 5), op := .assign (.tmp 15), guard := none, before := 127 },
          { dst := (some 6), op := .assign (.tmp 19), guard := none, before := 511 }] true)
        (.seq
          (.region [{ dst := (some 7), op := .assign (.val (.int .i64 1)), guard := none, before := 0 }] false)
          (.seq
            (.seq
              (.region [{ dst := (some 20), op := .move (.tmp 0), guard := none, before := 0 },
                { dst := (some 8), op := .assign (.tmp 20), guard := none, before := 1 }] false)
              (.block 0 (some [0, 1, 5, 6, 7]) (.loop (some [0, 1, 5, 6, 7, 8, 20])
                  (.seq
                    (.seq
                      (.region [{ dst := (some 21), op := .move (.tmp 8), guard := none, before := 0 },
                        { dst := (some 22), op := .bin (.geq) (.tmp 21) (.val (.int .u64 128)), guard := none, before := 1 }] false)
                      (.cond (.tmp 22)
                        (.skip)
                        (.exit 0)))
                    (.seq
                      (.block 1 none (.region [{ dst := (some 25), op := .move (.tmp 7), guard := none, before := 0 },
                          { dst := (some 26), op := .bin (.add) (.tmp 25) (.val (.int .i64 1)), guard := none, before := 1 },
                          { dst := (some 7), op := .assign (.tmp 26), guard := none, before := 3 }] false))
                      (.region [{ dst := (some 23), op := .move (.tmp 8), guard := none, before := 0 },
                        { dst := (some 24), op := .bin (.quo) (.tmp 23) (.val (.int .u64 128)), guard := none, before := 1 },
                        { dst := (some 8), op := .assign (.tmp 24), guard := none, before := 3 }] false))))))
            (.seq
              (.region [{ dst := (some 27), op := .move (.tmp 5), guard := none, before := 0 },
                { dst := (some 28), op := .len (.str) (.tmp 27), guard := none, before := 1 },
                { dst := (some 29), op := .move (.tmp 6), guard := none, before := 0 },
                { dst := (some 30), op := .len (.str) (.tmp 29), guard := none, before := 4 },
                { dst := (some 31), op := .bin (.leq) (.tmp 28) (.tmp 30), guard := none, before := 15 },
                { dst := (some 32), op := .move (.tmp 31), guard := none, before := 31 },
                { dst := (some 33), op := .move (.tmp 6), guard := (some (32, true)), before := 63 },
                { dst := (some 34), op := .move (.tmp 5), guard := (some (32, true)), before := 63 },
                { dst := (some 35), op := .len (.str) (.tmp 34), guard := (some (32, true)), before := 191 },
                { dst := (some 36), op := .slice (.str) (.tmp 33) none (some (.tmp 35)) none, guard := (some (32, true)), before := 511 },
                { dst := (some 37), op := .move (.tmp 5), guard := (some (32, true)), before := 63 },
                { dst := (some 38), op := .eq false (.num) (.tmp 36) (.tmp 37), guard := (some (32, true)), before := 2047 },
                { dst := (some 39), op := .pick (.tmp 32) (.tmp 38) (.val (.bool false)), guard := none, before := 4095 },
                { dst := (some 9), op := .assign (.tmp 39), guard := none, before := 8191 }] false)
              (.seq
                (.region [{ dst := (some 40), op := .move (.tmp 5), guard := none, before := 0 },
                  { dst := (some 41), op := .len (.str) (.tmp 40), guard := none, before := 1 },
                  { dst := (some 42), op := .move (.tmp 7), guard := none, before := 0 },
                  { dst := (some 43), op := .eq false (.num) (.tmp 41) (.tmp 42), guard := none, before := 7 },
                  { dst := (some 44), op := .move (.tmp 43), guard := none, before := 15 },
                  { dst := (some 45), op := .move (.tmp 9), guard := (some (44, true)), before := 31 },
                  { dst := (some 46), op := .move (.tmp 0), guard := (some (44, true)), before := 31 },
                  { dst := (some 47), op := .move (.tmp 1), guard := (some (44, true)), before := 31 },
                  { dst := (some 48), op := .eq false (.num) (.tmp 46) (.tmp 47), guard := (some (44, true)), before := 223 },
                  { dst := (some 49), op := .eq false (.bool) (.tmp 45) (.tmp 48), guard := (some (44, true)), before := 511 },
                  { dst := (some 50), op := .pick (.tmp 44) (.tmp 49) (.val (.bool false)), guard := none, before := 1023 },
                  { dst := (some 4), op := .assign (.tmp 50), guard := none, before := 2047 }] false)
                (.ret)))))))
def v10 : VFunc := { nparams := 2, ntmps := 51, nsites := 0, results := [.tmp 4], body := b10 }

variable (cal : Callee) (its : FuncId → Iter) (again : Nat → VCode → St → Option (Out × St))
def in35 : VCode := match b35 with | .seq _ (.seq _ (.seq (.seq _ (.block _ _ (.loop _ (.seq _ (.seq _ (.seq (.block _ _ (.seq _ (.seq (.block _ _ (.loop _ b)) _))) _)))))) _)) => b | _ => .skip
theorem in35_eq : in35 = (.seq (.seq (.region [{ dst := (some 16), op := .move (.tmp 7), guard := none, before := 0 }, { dst := (some 17), op := .bin (.geq) (.tmp 16) (.val (.int .u64 128)), guard := none, before := 1 }] false) (.cond (.tmp 17) (.skip) (.exit 2))) (.seq (.block 3 none (.region [{ dst := (some 20), op := .move (.tmp 5), guard := none, before := 0 }, { dst := (some 21), op := .move (.tmp 7), guard := none, before := 0 }, { dst := (some 22), op := .conv (.int (.u8)) (.tmp 21), guard := none, before := 2 }, { dst := (some 23), op := .bin (.or) (.tmp 22) (.val (.int .u8 128)), guard := none, before := 6 }, { dst := (some 24), op := .buildSlice 1 [(.int .u8 0)] [(0, (.tmp 23))], guard := none, before := 14 }, { dst := (some 25), op := .append 1 1 (.tmp 20) (.tmp 24), guard := none, before := 31 }, { dst := (some 5), op := .assign (.tmp 25), guard := none, before := 63 }] false)) (.region [{ dst := (some 18), op := .move (.tmp 7), guard := none, before := 0 }, { dst := (some 19), op := .bin (.shr) (.tmp 18) (.val (.int .u64 7)), guard := none, before := 1 }, { dst := (some 7), op := .assign (.tmp 19), guard := none, before := 3 }] false))) := rfl
def st35 (l : List V) (n0 : Int) (idx : Int) (out : List V) (n : Int) : St :=
  { slots := (.gone 0 :: .isl 0 1 l :: .gone 0 :: .gone 0 :: .gone 0 :: .xsl 0 1 out :: .gone 0 :: .int .u64 n :: .gone 0 :: .gone 0 :: .isl 0 1 l :: .int .i64 l.length :: .int .i64 idx :: .gone 0 :: .iptr [.int .u64 n0] :: .int .u64 n0 :: .gone 0 :: .gone 0 :: .gone 0 :: .gone 0 :: .gone 0 :: .gone 0 :: .gone 0 :: .gone 0 :: .gone 0 :: .gone 0 :: .gone 0 :: .gone 0 :: .gone 0 :: .gone 0 :: .gone 0 :: .gone 0 :: .gone 0 :: []), objs := [] }
theorem round35 (l : List V) (n0 idx : Int) (out : List V) (n : Int) (h : decide (n ≥ 128) = true) (hb : out.length + 1 ≤ 140737488355328) :
    ∃ s, step cal its again 0 in35 (st35 l n0 idx out n) = some (.normal, s) ∧ rebase? (some [1, 5, 7, 10, 11, 12, 14, 15]) 0 s = st35 l n0 idx (out ++ [.int .u8 (IntKind.u8.wrap ((BitVec.ofInt 8 (IntKind.u8.wrap n)) ||| (BitVec.ofInt 8 128)).toNat)]) (n.fdiv (2 ^ 7)) := by
  rw [in35_eq]
  unfold st35
  apply vround
  · repeat' (first
      | with_reducible exact Vq.runOps_nil
      | ((with_reducible apply Vq.runOps_cons); exact rfl; (try simp only [St.setS, St.slot, St.setO, St.obj, List.set_cons_succ, List.set_cons_zero, List.getD_cons_succ, List.getD_cons_zero, V.withLeaves, List.headD_cons, V.borrow, freeze1, borrows, borrow1, V.leaves, V.nextg, List.length_cons, List.length_nil, Nat.reduceAdd, Nat.reduceSub, layTup, obj1, splice, List.take_succ_cons, List.take_zero, List.drop_succ_cons, List.drop_zero, List.cons_append, List.nil_append, List.append_nil, Bool.false_eq_true, if_true, if_false, Bool.not_true, Bool.not_false, h]))
      | ((with_reducible apply Vq.runOps_cons); (apply Vq.run_asks; (· simp); (try simp only [List.take_length, List.drop_zero]); apply Vq.run_if trivial; unfold Vq.sHome; simp only [Vq.Prog.run]; apply Vq.run_asks; (· exact Nat.zero_lt_one); apply Vq.run_asks; (· exact ⟨trivial, by (simp; omega)⟩); exact rfl); (try simp only [St.setS, St.slot, St.setO, St.obj, List.set_cons_succ, List.set_cons_zero, List.getD_cons_succ, List.getD_cons_zero, V.withLeaves, List.headD_cons, V.borrow, freeze1, borrows, borrow1, V.leaves, V.nextg, List.length_cons, List.length_nil, Nat.reduceAdd, Nat.reduceSub, layTup, obj1, splice, List.take_succ_cons, List.take_zero, List.drop_succ_cons, List.drop_zero, List.cons_append, List.nil_append, List.append_nil, Bool.false_eq_true, if_true, if_false, Bool.not_true, Bool.not_false, h]); (try simp only [List.take_length, List.drop_zero]))
      | with_reducible exact Vq.runDraw_nil
      | ((with_reducible apply Vq.runDraw_cons); exact rfl; exact rfl; exact rfl; (try simp only [St.setS, St.slot, St.setO, St.obj, List.set_cons_succ, List.set_cons_zero, List.getD_cons_succ, List.getD_cons_zero, V.withLeaves, List.headD_cons, V.borrow, freeze1, borrows, borrow1, V.leaves, V.nextg, List.length_cons, List.length_nil, Nat.reduceAdd, Nat.reduceSub, layTup, obj1, splice, List.take_succ_cons, List.take_zero, List.drop_succ_cons, List.drop_zero, List.cons_append, List.nil_append, List.append_nil, Bool.false_eq_true, if_true, if_false, Bool.not_true, Bool.not_false, h]))
      | ((with_reducible apply Vq.vret); exact rfl)
      | ((with_reducible apply Vq.vskip); exact rfl)
      | ((with_reducible apply Vq.vexit); exact rfl)
      | ((with_reducible apply Vq.vregion); case hr => exact rfl)
      | ((with_reducible apply Vq.vdraw); case hr => exact rfl)
      | with_reducible apply Vq.vseq
      | with_reducible apply Vq.vblock
      | ((with_reducible apply Vq.vcond); exact rfl; dsimp only [Vq.pickC])
      | (dsimp only [Vq.afterSeq]; done)
      | ((with_reducible apply Vq.vab0); exact rfl)
      | ((with_reducible apply Vq.vab1); exact rfl)
      | ((with_reducible apply Vq.vabr); exact rfl)
      | ((with_reducible apply Vq.vabx); (· decide); exact rfl)
      | dsimp only [Vq.afterSeq])
  · skip
    exact rfl
def orb (n : Int) : V := .int .u8 (IntKind.u8.wrap ((BitVec.ofInt 8 (IntKind.u8.wrap n)) ||| (BitVec.ofInt 8 128)).toNat)
def pre : Nat → Int → List V
  | 0, _ => []
  | k + 1, n => if n ≥ 128 then orb n :: pre k (n.fdiv (2 ^ 7)) else []
def lst : Nat → Int → Int
  | 0, n => n
  | k + 1, n => if n ≥ 128 then lst k (n.fdiv (2 ^ 7)) else n
def ex35 (l : List V) (n0 : Int) (idx : Int) (out : List V) (n : Int) : St :=
  { slots := (.gone 0 :: .isl 0 1 l :: .gone 0 :: .gone 0 :: .gone 0 :: .xsl 0 1 out :: .gone 0 :: .int .u64 n :: .gone 0 :: .gone 0 :: .isl 0 1 l :: .int .i64 l.length :: .int .i64 idx :: .gone 0 :: .iptr [.int .u64 n0] :: .int .u64 n0 :: .int .u64 n :: .bool false :: .gone 0 :: .gone 0 :: .gone 0 :: .gone 0 :: .gone 0 :: .gone 0 :: .gone 0 :: .gone 0 :: .gone 0 :: .gone 0 :: .gone 0 :: .gone 0 :: .gone 0 :: .gone 0 :: .gone 0 :: []), objs := [] }
theorem out35 (l : List V) (n0 idx : Int) (out : List V) (n : Int) (h : decide (n ≥ 128) = false) :
    step cal its again 0 in35 (st35 l n0 idx out n) = some (.exit 2, ex35 l n0 idx out n) := by
  rw [in35_eq]
  unfold st35 ex35
  repeat' (first
      | with_reducible exact Vq.runOps_nil
      | ((with_reducible apply Vq.runOps_cons); exact rfl; (try simp only [St.setS, St.slot, St.setO, St.obj, List.set_cons_succ, List.set_cons_zero, List.getD_cons_succ, List.getD_cons_zero, V.withLeaves, List.headD_cons, V.borrow, freeze1, borrows, borrow1, V.leaves, V.nextg, List.length_cons, List.length_nil, Nat.reduceAdd, Nat.reduceSub, layTup, obj1, splice, List.take_succ_cons, List.take_zero, List.drop_succ_cons, List.drop_zero, List.cons_append, List.nil_append, List.append_nil, Bool.false_eq_true, if_true, if_false, Bool.not_true, Bool.not_false, h]))
      | with_reducible exact Vq.runDraw_nil
      | ((with_reducible apply Vq.runDraw_cons); exact rfl; exact rfl; exact rfl; (try simp only [St.setS, St.slot, St.setO, St.obj, List.set_cons_succ, List.set_cons_zero, List.getD_cons_succ, List.getD_cons_zero, V.withLeaves, List.headD_cons, V.borrow, freeze1, borrows, borrow1, V.leaves, V.nextg, List.length_cons, List.length_nil, Nat.reduceAdd, Nat.reduceSub, layTup, obj1, splice, List.take_succ_cons, List.take_zero, List.drop_succ_cons, List.drop_zero, List.cons_append, List.nil_append, List.append_nil, Bool.false_eq_true, if_true, if_false, Bool.not_true, Bool.not_false, h]))
      | ((with_reducible apply Vq.vret); exact rfl)
      | ((with_reducible apply Vq.vskip); exact rfl)
      | ((with_reducible apply Vq.vexit); exact rfl)
      | ((with_reducible apply Vq.vregion); case hr => exact rfl)
      | ((with_reducible apply Vq.vdraw); case hr => exact rfl)
      | with_reducible apply Vq.vseq
      | with_reducible apply Vq.vblock
      | ((with_reducible apply Vq.vcond); exact rfl; dsimp only [Vq.pickC])
      | (dsimp only [Vq.afterSeq]; done)
      | ((with_reducible apply Vq.vab0); exact rfl)
      | ((with_reducible apply Vq.vab1); exact rfl)
      | ((with_reducible apply Vq.vabr); exact rfl)
      | ((with_reducible apply Vq.vabx); (· decide); exact rfl)
      | dsimp only [Vq.afterSeq])
theorem inner35 (G : VProg) (l : List V) (n0 idx : Int) : ∀ (k m : Nat) (out : List V) (n : Int) (σ : St), 0 ≤ n → n < 128 ^ (k + 1) → out.length + k ≤ 140737488355328 → k ≤ m → rebase? (some [1, 5, 7, 10, 11, 12, 14, 15]) 0 σ = st35 l n0 idx out n →
    step (call G m) (itersOf G) (exec G m) 0 (.loop (some [1, 5, 7, 10, 11, 12, 14, 15]) in35) σ = some (.exit 2, ex35 l n0 idx (out ++ pre k n) (lst k n))
  | 0, m, out, n, σ, h0, hn, hb, hm, hs => by
    refine step_loop_out hs ?_ (by intro e; cases e)
    simp only [pre, lst, List.append_nil]
    exact out35 _ _ _ l n0 idx out n (by simpa using hn)
  | k + 1, m, out, n, σ, h0, hn, hb, hm, hs => by
    cases h : decide (n ≥ 128) with
    | false =>
      refine step_loop_out hs ?_ (by intro e; cases e)
      have h' : ¬ n ≥ 128 := by simpa using h
      simp only [pre, lst, if_neg h', List.append_nil]
      exact out35 _ _ _ l n0 idx out n h
    | true =>
      have h' : n ≥ 128 := by simpa using h
      cases m with
      | zero => omega
      | succ m =>
      obtain ⟨r, h1, h2⟩ := round35 (call G (m + 1)) (itersOf G) (exec G (m + 1)) l n0 idx out n h (by omega)
      have e : n.fdiv (2 ^ 7) = n / 128 := by rw [Int.fdiv_eq_ediv_of_nonneg _ (by decide)]; rfl
      have h3 := inner35 G l n0 idx k m _ _ r (by rw [e]; omega) (by rw [e]; rw [Int.pow_succ] at hn; omega) (by simp; omega) (by omega) h2
      refine step_loop hs h1 ?_
      rw [exec_succ, h3]
      simp only [pre, lst, if_pos h', List.append_assoc, List.singleton_append, orb]
/-- The bytes of a number. -/
def dg (n : Int) : List V := pre 9 n ++ [.int .u8 (IntKind.u8.wrap (lst 9 n))]
def so35 (ns : List Int) (i : Nat) (out : List V) : St :=
  { slots := (.gone 0 :: .isl 0 1 (ns.map (V.int .u64)) :: .gone 0 :: .gone 0 :: .gone 0 :: .xsl 0 1 out :: .gone 0 :: .gone 0 :: .gone 0 :: .gone 0 :: .isl 0 1 (ns.map (V.int .u64)) :: .int .i64 (ns.map (V.int .u64)).length :: .int .i64 i :: .gone 0 :: .gone 0 :: .gone 0 :: .gone 0 :: .gone 0 :: .gone 0 :: .gone 0 :: .gone 0 :: .gone 0 :: .gone 0 :: .gone 0 :: .gone 0 :: .gone 0 :: .gone 0 :: .gone 0 :: .gone 0 :: .gone 0 :: .gone 0 :: .gone 0 :: .gone 0 :: []), objs := [] }
def out35b : VCode := match b35 with | .seq _ (.seq _ (.seq (.seq _ (.block _ _ (.loop _ b))) _)) => b | _ => .skip
theorem out35b_eq : out35b = (.seq (.region [{ dst := (some 13), op := .bin (.lss) (.tmp 12) (.tmp 11), guard := none, before := 0 }] false) (.seq (.cond (.tmp 13) (.skip) (.exit 0)) (.seq (.block 1 (some [1, 5, 10, 11, 12]) (.seq (.region [{ dst := (some 14), op := .indexAddr none 1 (.tmp 10) (.tmp 12), guard := none, before := 0 }, { dst := (some 15), op := .load false 1 (.tmp 14), guard := none, before := 1 }, { dst := (some 7), op := .assign (.tmp 15), guard := none, before := 3 }] false) (.seq (.block 2 (some [1, 5, 7, 10, 11, 12, 14, 15]) (.loop (some [1, 5, 7, 10, 11, 12, 14, 15]) (.seq (.seq (.region [{ dst := (some 16), op := .move (.tmp 7), guard := none, before := 0 }, { dst := (some 17), op := .bin (.geq) (.tmp 16) (.val (.int .u64 128)), guard := none, before := 1 }] false) (.cond (.tmp 17) (.skip) (.exit 2))) (.seq (.block 3 none (.region [{ dst := (some 20), op := .move (.tmp 5), guard := none, before := 0 }, { dst := (some 21), op := .move (.tmp 7), guard := none, before := 0 }, { dst := (some 22), op := .conv (.int (.u8)) (.tmp 21), guard := none, before := 2 }, { dst := (some 23), op := .bin (.or) (.tmp 22) (.val (.int .u8 128)), guard := none, before := 6 }, { dst := (some 24), op := .buildSlice 1 [(.int .u8 0)] [(0, (.tmp 23))], guard := none, before := 14 }, { dst := (some 25), op := .append 1 1 (.tmp 20) (.tmp 24), guard := none, before := 31 }, { dst := (some 5), op := .assign (.tmp 25), guard := none, before := 63 }] false)) (.region [{ dst := (some 18), op := .move (.tmp 7), guard := none, before := 0 }, { dst := (some 19), op := .bin (.shr) (.tmp 18) (.val (.int .u64 7)), guard := none, before := 1 }, { dst := (some 7), op := .assign (.tmp 19), guard := none, before := 3 }] false))))) (.region [{ dst := (some 26), op := .move (.tmp 5), guard := none, before := 0 }, { dst := (some 27), op := .move (.tmp 7), guard := none, before := 0 }, { dst := (some 28), op := .conv (.int (.u8)) (.tmp 27), guard := none, before := 2 }, { dst := (some 29), op := .buildSlice 1 [(.int .u8 0)] [(0, (.tmp 28))], guard := none, before := 6 }, { dst := (some 30), op := .append 1 1 (.tmp 26) (.tmp 29), guard := none, before := 15 }, { dst := (some 5), op := .assign (.tmp 30), guard := none, before := 31 }] false)))) (.region [{ dst := (some 31), op := .bin (.add) (.tmp 12) (.val (.int .i64 1)), guard := none, before := 0 }, { dst := (some 12), op := .move (.tmp 31), guard := none, before := 1 }] false)))) := rfl
theorem pre_len : ∀ k n, (pre k n).length ≤ k
  | 0, n => by simp [pre]
  | k + 1, n => by unfold pre; split; · simpa using pre_len k _
                   · simp
theorem roundo35 (G : VProg) (m : Nat) (hm : 10 ≤ m) (ns : List Int) (hns : ∀ n ∈ ns, 0 ≤ n ∧ n < 18446744073709551616) (i : Nat) (hi : i < ns.length) (out : List V) (hb : out.length + 12 ≤ 140737488355328) (hl : ns.length ≤ 140737488355328) :
    ∃ s, step (call G m) (itersOf G) (exec G m) 0 out35b (so35 ns i out) = some (.normal, s) ∧ rebase? (some [1, 5, 10, 11, 12]) 0 s = so35 ns (i + 1) (out ++ dg ns[i]) := by
  have hx : (ns.map (V.int .u64))[((i : Int)).toNat]? = some (.int .u64 ns[i]) := by simp [hi]
  have hlt : decide ((i : Int) < ((ns.map (V.int .u64)).length : Int)) = true := by simp; omega
  have hn := hns ns[i] (List.getElem_mem hi)
  have hadd : IntKind.i64.wrap ((i : Int) + 1) = ((i + 1 : Nat) : Int) := by
    simp only [IntKind.wrap, IntKind.bits, IntKind.signed]; simp; omega
  rw [out35b_eq]
  unfold so35
  apply vround
  · (with_reducible apply Vq.vseq)
    · repeat' (first
      | with_reducible exact Vq.runOps_nil
      | ((with_reducible apply Vq.runOps_cons); exact rfl; (try simp only [St.setS, St.slot, St.setO, St.obj, List.set_cons_succ, List.set_cons_zero, List.getD_cons_succ, List.getD_cons_zero, V.withLeaves, List.headD_cons, V.borrow, freeze1, borrows, borrow1, V.leaves, V.nextg, List.length_cons, List.length_nil, Nat.reduceAdd, Nat.reduceSub, layTup, obj1, splice, List.take_succ_cons, List.take_zero, List.drop_succ_cons, List.drop_zero, List.cons_append, List.nil_append, List.append_nil, Bool.false_eq_true, if_true, if_false, Bool.not_true, Bool.not_false, hlt]))
      | with_reducible exact Vq.runDraw_nil
      | ((with_reducible apply Vq.runDraw_cons); exact rfl; exact rfl; exact rfl; (try simp only [St.setS, St.slot, St.setO, St.obj, List.set_cons_succ, List.set_cons_zero, List.getD_cons_succ, List.getD_cons_zero, V.withLeaves, List.headD_cons, V.borrow, freeze1, borrows, borrow1, V.leaves, V.nextg, List.length_cons, List.length_nil, Nat.reduceAdd, Nat.reduceSub, layTup, obj1, splice, List.take_succ_cons, List.take_zero, List.drop_succ_cons, List.drop_zero, List.cons_append, List.nil_append, List.append_nil, Bool.false_eq_true, if_true, if_false, Bool.not_true, Bool.not_false, hlt]))
      | ((with_reducible apply Vq.vret); exact rfl)
      | ((with_reducible apply Vq.vskip); exact rfl)
      | ((with_reducible apply Vq.vexit); exact rfl)
      | ((with_reducible apply Vq.vregion); case hr => exact rfl)
      | ((with_reducible apply Vq.vdraw); case hr => exact rfl)
      | with_reducible apply Vq.vseq
      | with_reducible apply Vq.vblock
      | ((with_reducible apply Vq.vcond); exact rfl; dsimp only [Vq.pickC])
      | (dsimp only [Vq.afterSeq]; done)
      | ((with_reducible apply Vq.vab0); exact rfl)
      | ((with_reducible apply Vq.vab1); exact rfl)
      | ((with_reducible apply Vq.vabr); exact rfl)
      | ((with_reducible apply Vq.vabx); (· decide); exact rfl)
      | dsimp only [Vq.afterSeq])
    dsimp only [afterSeq]
    (with_reducible apply Vq.vseq)
    · repeat' (first
      | with_reducible exact Vq.runOps_nil
      | ((with_reducible apply Vq.runOps_cons); exact rfl; (try simp only [St.setS, St.slot, St.setO, St.obj, List.set_cons_succ, List.set_cons_zero, List.getD_cons_succ, List.getD_cons_zero, V.withLeaves, List.headD_cons, V.borrow, freeze1, borrows, borrow1, V.leaves, V.nextg, List.length_cons, List.length_nil, Nat.reduceAdd, Nat.reduceSub, layTup, obj1, splice, List.take_succ_cons, List.take_zero, List.drop_succ_cons, List.drop_zero, List.cons_append, List.nil_append, List.append_nil, Bool.false_eq_true, if_true, if_false, Bool.not_true, Bool.not_false, hlt]))
      | with_reducible exact Vq.runDraw_nil
      | ((with_reducible apply Vq.runDraw_cons); exact rfl; exact rfl; exact rfl; (try simp only [St.setS, St.slot, St.setO, St.obj, List.set_cons_succ, List.set_cons_zero, List.getD_cons_succ, List.getD_cons_zero, V.withLeaves, List.headD_cons, V.borrow, freeze1, borrows, borrow1, V.leaves, V.nextg, List.length_cons, List.length_nil, Nat.reduceAdd, Nat.reduceSub, layTup, obj1, splice, List.take_succ_cons, List.take_zero, List.drop_succ_cons, List.drop_zero, List.cons_append, List.nil_append, List.append_nil, Bool.false_eq_true, if_true, if_false, Bool.not_true, Bool.not_false, hlt]))
      | ((with_reducible apply Vq.vret); exact rfl)
      | ((with_reducible apply Vq.vskip); exact rfl)
      | ((with_reducible apply Vq.vexit); exact rfl)
      | ((with_reducible apply Vq.vregion); case hr => exact rfl)
      | ((with_reducible apply Vq.vdraw); case hr => exact rfl)
      | with_reducible apply Vq.vseq
      | with_reducible apply Vq.vblock
      | ((with_reducible apply Vq.vcond); exact rfl; dsimp only [Vq.pickC])
      | (dsimp only [Vq.afterSeq]; done)
      | ((with_reducible apply Vq.vab0); exact rfl)
      | ((with_reducible apply Vq.vab1); exact rfl)
      | ((with_reducible apply Vq.vabr); exact rfl)
      | ((with_reducible apply Vq.vabx); (· decide); exact rfl)
      | dsimp only [Vq.afterSeq])
    dsimp only [afterSeq]
    (with_reducible apply Vq.vseq)
    · (with_reducible apply vblock)
      · (with_reducible apply Vq.vseq)
        · (with_reducible apply Vq.vregion); case hr => exact rfl
          (with_reducible apply Vq.runOps_cons)
          · apply vidx rfl rfl (.inl rfl) (by omega) hx
            exact rfl
          (try simp only [St.setS, St.slot, St.setO, St.obj, List.set_cons_succ, List.set_cons_zero, List.getD_cons_succ, List.getD_cons_zero, V.withLeaves, List.headD_cons, V.borrow, freeze1, borrows, borrow1, V.leaves, V.nextg, List.length_cons, List.length_nil, Nat.reduceAdd, Nat.reduceSub, layTup, obj1, splice, List.take_succ_cons, List.take_zero, List.drop_succ_cons, List.drop_zero, List.cons_append, List.nil_append, List.append_nil, Bool.false_eq_true, if_true, if_false, Bool.not_true, Bool.not_false])
          repeat' (first
      | with_reducible exact Vq.runOps_nil
      | ((with_reducible apply Vq.runOps_cons); exact rfl; (try simp only [St.setS, St.slot, St.setO, St.obj, List.set_cons_succ, List.set_cons_zero, List.getD_cons_succ, List.getD_cons_zero, V.withLeaves, List.headD_cons, V.borrow, freeze1, borrows, borrow1, V.leaves, V.nextg, List.length_cons, List.length_nil, Nat.reduceAdd, Nat.reduceSub, layTup, obj1, splice, List.take_succ_cons, List.take_zero, List.drop_succ_cons, List.drop_zero, List.cons_append, List.nil_append, List.append_nil, Bool.false_eq_true, if_true, if_false, Bool.not_true, Bool.not_false]))
      | with_reducible exact Vq.runDraw_nil
      | ((with_reducible apply Vq.runDraw_cons); exact rfl; exact rfl; exact rfl; (try simp only [St.setS, St.slot, St.setO, St.obj, List.set_cons_succ, List.set_cons_zero, List.getD_cons_succ, List.getD_cons_zero, V.withLeaves, List.headD_cons, V.borrow, freeze1, borrows, borrow1, V.leaves, V.nextg, List.length_cons, List.length_nil, Nat.reduceAdd, Nat.reduceSub, layTup, obj1, splice, List.take_succ_cons, List.take_zero, List.drop_succ_cons, List.drop_zero, List.cons_append, List.nil_append, List.append_nil, Bool.false_eq_true, if_true, if_false, Bool.not_true, Bool.not_false]))
      | ((with_reducible apply Vq.vret); exact rfl)
      | ((with_reducible apply Vq.vskip); exact rfl)
      | ((with_reducible apply Vq.vexit); exact rfl)
      | ((with_reducible apply Vq.vregion); case hr => exact rfl)
      | ((with_reducible apply Vq.vdraw); case hr => exact rfl)
      | with_reducible apply Vq.vseq
      | with_reducible apply Vq.vblock
      | ((with_reducible apply Vq.vcond); exact rfl; dsimp only [Vq.pickC])
      | (dsimp only [Vq.afterSeq]; done)
      | ((with_reducible apply Vq.vab0); exact rfl)
      | ((with_reducible apply Vq.vab1); exact rfl)
      | ((with_reducible apply Vq.vabr); exact rfl)
      | ((with_reducible apply Vq.vabx); (· decide); exact rfl)
      | dsimp only [Vq.afterSeq])
        dsimp only [afterSeq]
        (with_reducible apply Vq.vseq)
        · (with_reducible apply vblock)
          · exact inner35 G _ ns[i] i 9 m out ns[i] _ hn.1 (by omega) (by omega) (by omega) rfl
          · apply vabkx (τ := st35 (ns.map (V.int .u64)) ns[i] i (out ++ pre 9 ns[i]) (lst 9 ns[i])) rfl
            exact rfl
        dsimp only [afterSeq]
        unfold st35
        repeat' (first
      | with_reducible exact Vq.runOps_nil
      | ((with_reducible apply Vq.runOps_cons); exact rfl; (try simp only [St.setS, St.slot, St.setO, St.obj, List.set_cons_succ, List.set_cons_zero, List.getD_cons_succ, List.getD_cons_zero, V.withLeaves, List.headD_cons, V.borrow, freeze1, borrows, borrow1, V.leaves, V.nextg, List.length_cons, List.length_nil, Nat.reduceAdd, Nat.reduceSub, layTup, obj1, splice, List.take_succ_cons, List.take_zero, List.drop_succ_cons, List.drop_zero, List.cons_append, List.nil_append, List.append_nil, Bool.false_eq_true, if_true, if_false, Bool.not_true, Bool.not_false]))
      | ((with_reducible apply Vq.runOps_cons); (apply Vq.run_asks; (· simp); (try simp only [List.take_length, List.drop_zero]); apply Vq.run_if trivial; unfold Vq.sHome; simp only [Vq.Prog.run]; apply Vq.run_asks; (· exact Nat.zero_lt_one); apply Vq.run_asks; (· exact ⟨trivial, by (have := pre_len 9 ns[i]; simp; omega)⟩); exact rfl); (try simp only [St.setS, St.slot, St.setO, St.obj, List.set_cons_succ, List.set_cons_zero, List.getD_cons_succ, List.getD_cons_zero, V.withLeaves, List.headD_cons, V.borrow, freeze1, borrows, borrow1, V.leaves, V.nextg, List.length_cons, List.length_nil, Nat.reduceAdd, Nat.reduceSub, layTup, obj1, splice, List.take_succ_cons, List.take_zero, List.drop_succ_cons, List.drop_zero, List.cons_append, List.nil_append, List.append_nil, Bool.false_eq_true, if_true, if_false, Bool.not_true, Bool.not_false]); (try simp only [List.take_length, List.drop_zero]))
      | with_reducible exact Vq.runDraw_nil
      | ((with_reducible apply Vq.runDraw_cons); exact rfl; exact rfl; exact rfl; (try simp only [St.setS, St.slot, St.setO, St.obj, List.set_cons_succ, List.set_cons_zero, List.getD_cons_succ, List.getD_cons_zero, V.withLeaves, List.headD_cons, V.borrow, freeze1, borrows, borrow1, V.leaves, V.nextg, List.length_cons, List.length_nil, Nat.reduceAdd, Nat.reduceSub, layTup, obj1, splice, List.take_succ_cons, List.take_zero, List.drop_succ_cons, List.drop_zero, List.cons_append, List.nil_append, List.append_nil, Bool.false_eq_true, if_true, if_false, Bool.not_true, Bool.not_false]))
      | ((with_reducible apply Vq.vret); exact rfl)
      | ((with_reducible apply Vq.vskip); exact rfl)
      | ((with_reducible apply Vq.vexit); exact rfl)
      | ((with_reducible apply Vq.vregion); case hr => exact rfl)
      | ((with_reducible apply Vq.vdraw); case hr => exact rfl)
      | with_reducible apply Vq.vseq
      | with_reducible apply Vq.vblock
      | ((with_reducible apply Vq.vcond); exact rfl; dsimp only [Vq.pickC])
      | (dsimp only [Vq.afterSeq]; done)
      | ((with_reducible apply Vq.vab0); exact rfl)
      | ((with_reducible apply Vq.vab1); exact rfl)
      | ((with_reducible apply Vq.vabr); exact rfl)
      | ((with_reducible apply Vq.vabx); (· decide); exact rfl)
      | dsimp only [Vq.afterSeq])
      · apply vabk (τ := so35 ns i (out ++ dg ns[i]))
        · unfold dg so35
          rw [← List.append_assoc]
          exact rfl
        · exact rfl
    dsimp only [afterSeq]
    unfold so35
    repeat' (first
      | with_reducible exact Vq.runOps_nil
      | ((with_reducible apply Vq.runOps_cons); exact rfl; (try simp only [St.setS, St.slot, St.setO, St.obj, List.set_cons_succ, List.set_cons_zero, List.getD_cons_succ, List.getD_cons_zero, V.withLeaves, List.headD_cons, V.borrow, freeze1, borrows, borrow1, V.leaves, V.nextg, List.length_cons, List.length_nil, Nat.reduceAdd, Nat.reduceSub, layTup, obj1, splice, List.take_succ_cons, List.take_zero, List.drop_succ_cons, List.drop_zero, List.cons_append, List.nil_append, List.append_nil, Bool.false_eq_true, if_true, if_false, Bool.not_true, Bool.not_false, hadd]))
      | with_reducible exact Vq.runDraw_nil
      | ((with_reducible apply Vq.runDraw_cons); exact rfl; exact rfl; exact rfl; (try simp only [St.setS, St.slot, St.setO, St.obj, List.set_cons_succ, List.set_cons_zero, List.getD_cons_succ, List.getD_cons_zero, V.withLeaves, List.headD_cons, V.borrow, freeze1, borrows, borrow1, V.leaves, V.nextg, List.length_cons, List.length_nil, Nat.reduceAdd, Nat.reduceSub, layTup, obj1, splice, List.take_succ_cons, List.take_zero, List.drop_succ_cons, List.drop_zero, List.cons_append, List.nil_append, List.append_nil, Bool.false_eq_true, if_true, if_false, Bool.not_true, Bool.not_false, hadd]))
      | ((with_reducible apply Vq.vret); exact rfl)
      | ((with_reducible apply Vq.vskip); exact rfl)
      | ((with_reducible apply Vq.vexit); exact rfl)
      | ((with_reducible apply Vq.vregion); case hr => exact rfl)
      | ((with_reducible apply Vq.vdraw); case hr => exact rfl)
      | with_reducible apply Vq.vseq
      | with_reducible apply Vq.vblock
      | ((with_reducible apply Vq.vcond); exact rfl; dsimp only [Vq.pickC])
      | (dsimp only [Vq.afterSeq]; done)
      | ((with_reducible apply Vq.vab0); exact rfl)
      | ((with_reducible apply Vq.vab1); exact rfl)
      | ((with_reducible apply Vq.vabr); exact rfl)
      | ((with_reducible apply Vq.vabx); (· decide); exact rfl)
      | dsimp only [Vq.afterSeq])
  · exact rfl
def eo35 (ns : List Int) (i : Nat) (out : List V) : St :=
  { slots := (.gone 0 :: .isl 0 1 (ns.map (V.int .u64)) :: .gone 0 :: .gone 0 :: .gone 0 :: .xsl 0 1 out :: .gone 0 :: .gone 0 :: .gone 0 :: .gone 0 :: .isl 0 1 (ns.map (V.int .u64)) :: .int .i64 (ns.map (V.int .u64)).length :: .int .i64 i :: .bool false :: .gone 0 :: .gone 0 :: .gone 0 :: .gone 0 :: .gone 0 :: .gone 0 :: .gone 0 :: .gone 0 :: .gone 0 :: .gone 0 :: .gone 0 :: .gone 0 :: .gone 0 :: .gone 0 :: .gone 0 :: .gone 0 :: .gone 0 :: .gone 0 :: .gone 0 :: []), objs := [] }
theorem outx35 (ns : List Int) (i : Nat) (hi : ns.length ≤ i) (out : List V) : step cal its again 0 out35b (so35 ns i out) = some (.exit 0, eo35 ns i out) := by
  have hlt : decide ((i : Int) < ((ns.map (V.int .u64)).length : Int)) = false := by simp; omega
  rw [out35b_eq]
  unfold so35 eo35
  repeat' (first
      | with_reducible exact Vq.runOps_nil
      | ((with_reducible apply Vq.runOps_cons); exact rfl; (try simp only [St.setS, St.slot, St.setO, St.obj, List.set_cons_succ, List.set_cons_zero, List.getD_cons_succ, List.getD_cons_zero, V.withLeaves, List.headD_cons, V.borrow, freeze1, borrows, borrow1, V.leaves, V.nextg, List.length_cons, List.length_nil, Nat.reduceAdd, Nat.reduceSub, layTup, obj1, splice, List.take_succ_cons, List.take_zero, List.drop_succ_cons, List.drop_zero, List.cons_append, List.nil_append, List.append_nil, Bool.false_eq_true, if_true, if_false, Bool.not_true, Bool.not_false, hlt]))
      | with_reducible exact Vq.runDraw_nil
      | ((with_reducible apply Vq.runDraw_cons); exact rfl; exact rfl; exact rfl; (try simp only [St.setS, St.slot, St.setO, St.obj, List.set_cons_succ, List.set_cons_zero, List.getD_cons_succ, List.getD_cons_zero, V.withLeaves, List.headD_cons, V.borrow, freeze1, borrows, borrow1, V.leaves, V.nextg, List.length_cons, List.length_nil, Nat.reduceAdd, Nat.reduceSub, layTup, obj1, splice, List.take_succ_cons, List.take_zero, List.drop_succ_cons, List.drop_zero, List.cons_append, List.nil_append, List.append_nil, Bool.false_eq_true, if_true, if_false, Bool.not_true, Bool.not_false, hlt]))
      | ((with_reducible apply Vq.vret); exact rfl)
      | ((with_reducible apply Vq.vskip); exact rfl)
      | ((with_reducible apply Vq.vexit); exact rfl)
      | ((with_reducible apply Vq.vregion); case hr => exact rfl)
      | ((with_reducible apply Vq.vdraw); case hr => exact rfl)
      | with_reducible apply Vq.vseq
      | with_reducible apply Vq.vblock
      | ((with_reducible apply Vq.vcond); exact rfl; dsimp only [Vq.pickC])
      | (dsimp only [Vq.afterSeq]; done)
      | ((with_reducible apply Vq.vab0); exact rfl)
      | ((with_reducible apply Vq.vab1); exact rfl)
      | ((with_reducible apply Vq.vabr); exact rfl)
      | ((with_reducible apply Vq.vabx); (· decide); exact rfl)
      | dsimp only [Vq.afterSeq])
theorem dg_len (n : Int) : (dg n).length ≤ 10 := by have := pre_len 9 n; simp [dg]; omega
def dgs (ns : List Int) : List V := ns.flatMap dg
theorem outer35 (G : VProg) (ns : List Int) (hns : ∀ n ∈ ns, 0 ≤ n ∧ n < 18446744073709551616) (hl : ns.length ≤ 140737488355328) : ∀ (j i m : Nat) (out : List V) (σ : St), i + j = ns.length → out.length + 10 * j + 12 ≤ 140737488355328 → 10 + j ≤ m → rebase? (some [1, 5, 10, 11, 12]) 0 σ = so35 ns i out →
    step (call G m) (itersOf G) (exec G m) 0 (.loop (some [1, 5, 10, 11, 12]) out35b) σ = some (.exit 0, eo35 ns ns.length (out ++ dgs (ns.drop i)))
  | 0, i, m, out, σ, hi, hb, hm, hs => by
    refine step_loop_out hs ?_ (by intro e; cases e)
    obtain rfl : i = ns.length := by omega
    simp only [List.drop_length, dgs, List.flatMap_nil, List.append_nil]
    exact outx35 _ _ _ ns _ (Nat.le_refl _) out
  | j + 1, i, m, out, σ, hi, hb, hm, hs => by
    cases m with
    | zero => omega
    | succ m =>
    obtain ⟨r, h1, h2⟩ := roundo35 G (m + 1) (by omega) ns hns i (by omega) out (by omega) hl
    have hd := dg_len ns[i]
    have h3 := outer35 G ns hns hl j (i + 1) m _ r (by omega) (by simp; omega) (by omega) h2
    refine step_loop hs h1 ?_
    rw [exec_succ, h3]
    rw [List.drop_eq_getElem_cons (show i < ns.length by omega)]
    simp only [dgs, List.flatMap_cons, List.append_assoc]
/-- packet.Number -/
theorem num35 (G : VProg) (hG : G 35 = some (.code v35)) (h53 : ∀ m es, es.length ≤ 140737488355328 → call G m 53 [.isl 0 1 es] [] = some (.xsl 0 1 es, [])) (ns : List Int) (hns : ∀ n ∈ ns, 0 ≤ n ∧ n < 18446744073709551616) (b : List V) (hbn : ∀ x ∈ b, x.noslice = true) (hb : b.length + 10 * ns.length + 12 ≤ 140737488355328) (m : Nat) (hm : ns.length + 11 ≤ m) :
    call G m 35 [.isl 0 1 b, .isl 0 1 (ns.map (V.int .u64))] [] = some (.xsl 0 1 (b ++ dgs ns), []) := by
  obtain ⟨m, rfl⟩ : ∃ k, m = k + 1 := ⟨m - 1, by omega⟩
  apply call_code (o := .ret) hG ⟨rfl, by decide⟩
  · change step (call G m) (itersOf G) (exec G m) 0 b35 _ = _
    (try simp only [Vq.start, List.length_cons, List.length_nil, List.map_cons, List.map_nil, List.cons_append, List.nil_append, List.replicate_succ, List.replicate_zero, Nat.reduceAdd, Nat.reduceSub, v35])
    unfold b35
    (with_reducible apply Vq.vseq)
    · repeat' (first
      | with_reducible exact Vq.runOps_nil
      | ((with_reducible apply Vq.runOps_cons); exact rfl; (try simp only [St.setS, St.slot, St.setO, St.obj, List.set_cons_succ, List.set_cons_zero, List.getD_cons_succ, List.getD_cons_zero, V.withLeaves, List.headD_cons, V.borrow, freeze1, borrows, borrow1, V.leaves, V.nextg, List.length_cons, List.length_nil, Nat.reduceAdd, Nat.reduceSub, layTup, obj1, splice, List.take_succ_cons, List.take_zero, List.drop_succ_cons, List.drop_zero, List.cons_append, List.nil_append, List.append_nil, Bool.false_eq_true, if_true, if_false, Bool.not_true, Bool.not_false]))
      | with_reducible exact Vq.runDraw_nil
      | ((with_reducible apply Vq.runDraw_cons); exact rfl; exact rfl; exact rfl; (try simp only [St.setS, St.slot, St.setO, St.obj, List.set_cons_succ, List.set_cons_zero, List.getD_cons_succ, List.getD_cons_zero, V.withLeaves, List.headD_cons, V.borrow, freeze1, borrows, borrow1, V.leaves, V.nextg, List.length_cons, List.length_nil, Nat.reduceAdd, Nat.reduceSub, layTup, obj1, splice, List.take_succ_cons, List.take_zero, List.drop_succ_cons, List.drop_zero, List.cons_append, List.nil_append, List.append_nil, Bool.false_eq_true, if_true, if_false, Bool.not_true, Bool.not_false]))
      | ((with_reducible apply Vq.vret); exact rfl)
      | ((with_reducible apply Vq.vskip); exact rfl)
      | ((with_reducible apply Vq.vexit); exact rfl)
      | ((with_reducible apply Vq.vregion); case hr => exact rfl)
      | ((with_reducible apply Vq.vdraw); case hr => exact rfl)
      | with_reducible apply Vq.vseq
      | with_reducible apply Vq.vblock
      | ((with_reducible apply Vq.vcond); exact rfl; dsimp only [Vq.pickC])
      | (dsimp only [Vq.afterSeq]; done)
      | ((with_reducible apply Vq.vab0); exact rfl)
      | ((with_reducible apply Vq.vab1); exact rfl)
      | ((with_reducible apply Vq.vabr); exact rfl)
      | ((with_reducible apply Vq.vabx); (· decide); exact rfl)
      | dsimp only [Vq.afterSeq])
    dsimp only [afterSeq]
    (with_reducible apply Vq.vseq)
    · repeat' (first
      | with_reducible exact Vq.runOps_nil
      | ((with_reducible apply Vq.runOps_cons); exact rfl; (try simp only [St.setS, St.slot, St.setO, St.obj, List.set_cons_succ, List.set_cons_zero, List.getD_cons_succ, List.getD_cons_zero, V.withLeaves, List.headD_cons, V.borrow, freeze1, borrows, borrow1, V.leaves, V.nextg, List.length_cons, List.length_nil, Nat.reduceAdd, Nat.reduceSub, layTup, obj1, splice, List.take_succ_cons, List.take_zero, List.drop_succ_cons, List.drop_zero, List.cons_append, List.nil_append, List.append_nil, Bool.false_eq_true, if_true, if_false, Bool.not_true, Bool.not_false]))
      | ((with_reducible apply Vq.runOps_cons); (apply Vq.vcallL; exact rfl; exact fun _ => rfl; exact fun _ => rfl; exact fun _ => rfl; exact fun _ => rfl; decide; exact rfl; exact rfl; (first | exact h53 _ _ (by omega)); exact rfl); (try simp only [St.setS, St.slot, St.setO, St.obj, List.set_cons_succ, List.set_cons_zero, List.getD_cons_succ, List.getD_cons_zero, V.withLeaves, List.headD_cons, V.borrow, freeze1, borrows, borrow1, V.leaves, V.nextg, List.length_cons, List.length_nil, Nat.reduceAdd, Nat.reduceSub, layTup, obj1, splice, List.take_succ_cons, List.take_zero, List.drop_succ_cons, List.drop_zero, List.cons_append, List.nil_append, List.append_nil, Bool.false_eq_true, if_true, if_false, Bool.not_true, Bool.not_false]))
      | ((with_reducible apply Vq.runOps_cons); (apply Vq.vcallA; exact rfl; exact fun _ => rfl; exact rfl; (first | exact h53 _ _ (by omega)); (first | exact rfl | (simp [Vq.V.apart, Vq.V.leaves, Vq.V.noslice]; done) | (simp [Vq.V.apart, Vq.V.leaves, Vq.V.noslice]; assumption)); exact rfl); (try simp only [St.setS, St.slot, St.setO, St.obj, List.set_cons_succ, List.set_cons_zero, List.getD_cons_succ, List.getD_cons_zero, V.withLeaves, List.headD_cons, V.borrow, freeze1, borrows, borrow1, V.leaves, V.nextg, List.length_cons, List.length_nil, Nat.reduceAdd, Nat.reduceSub, layTup, obj1, splice, List.take_succ_cons, List.take_zero, List.drop_succ_cons, List.drop_zero, List.cons_append, List.nil_append, List.append_nil, Bool.false_eq_true, if_true, if_false, Bool.not_true, Bool.not_false]))
      | with_reducible exact Vq.runDraw_nil
      | ((with_reducible apply Vq.runDraw_cons); exact rfl; exact rfl; exact rfl; (try simp only [St.setS, St.slot, St.setO, St.obj, List.set_cons_succ, List.set_cons_zero, List.getD_cons_succ, List.getD_cons_zero, V.withLeaves, List.headD_cons, V.borrow, freeze1, borrows, borrow1, V.leaves, V.nextg, List.length_cons, List.length_nil, Nat.reduceAdd, Nat.reduceSub, layTup, obj1, splice, List.take_succ_cons, List.take_zero, List.drop_succ_cons, List.drop_zero, List.cons_append, List.nil_append, List.append_nil, Bool.false_eq_true, if_true, if_false, Bool.not_true, Bool.not_false]))
      | ((with_reducible apply Vq.vret); exact rfl)
      | ((with_reducible apply Vq.vskip); exact rfl)
      | ((with_reducible apply Vq.vexit); exact rfl)
      | ((with_reducible apply Vq.vregion); case hr => exact rfl)
      | ((with_reducible apply Vq.vdraw); case hr => exact rfl)
      | with_reducible apply Vq.vseq
      | with_reducible apply Vq.vblock
      | ((with_reducible apply Vq.vcond); exact rfl; dsimp only [Vq.pickC])
      | (dsimp only [Vq.afterSeq]; done)
      | ((with_reducible apply Vq.vab0); exact rfl)
      | ((with_reducible apply Vq.vab1); exact rfl)
      | ((with_reducible apply Vq.vabr); exact rfl)
      | ((with_reducible apply Vq.vabx); (· decide); exact rfl)
      | dsimp only [Vq.afterSeq])
    dsimp only [afterSeq]
    (with_reducible apply Vq.vseq)
    · (with_reducible apply Vq.vseq)
      · repeat' (first
      | with_reducible exact Vq.runOps_nil
      | ((with_reducible apply Vq.runOps_cons); exact rfl; (try simp only [St.setS, St.slot, St.setO, St.obj, List.set_cons_succ, List.set_cons_zero, List.getD_cons_succ, List.getD_cons_zero, V.withLeaves, List.headD_cons, V.borrow, freeze1, borrows, borrow1, V.leaves, V.nextg, List.length_cons, List.length_nil, Nat.reduceAdd, Nat.reduceSub, layTup, obj1, splice, List.take_succ_cons, List.take_zero, List.drop_succ_cons, List.drop_zero, List.cons_append, List.nil_append, List.append_nil, Bool.false_eq_true, if_true, if_false, Bool.not_true, Bool.not_false]))
      | with_reducible exact Vq.runDraw_nil
      | ((with_reducible apply Vq.runDraw_cons); exact rfl; exact rfl; exact rfl; (try simp only [St.setS, St.slot, St.setO, St.obj, List.set_cons_succ, List.set_cons_zero, List.getD_cons_succ, List.getD_cons_zero, V.withLeaves, List.headD_cons, V.borrow, freeze1, borrows, borrow1, V.leaves, V.nextg, List.length_cons, List.length_nil, Nat.reduceAdd, Nat.reduceSub, layTup, obj1, splice, List.take_succ_cons, List.take_zero, List.drop_succ_cons, List.drop_zero, List.cons_append, List.nil_append, List.append_nil, Bool.false_eq_true, if_true, if_false, Bool.not_true, Bool.not_false]))
      | ((with_reducible apply Vq.vret); exact rfl)
      | ((with_reducible apply Vq.vskip); exact rfl)
      | ((with_reducible apply Vq.vexit); exact rfl)
      | ((with_reducible apply Vq.vregion); case hr => exact rfl)
      | ((with_reducible apply Vq.vdraw); case hr => exact rfl)
      | with_reducible apply Vq.vseq
      | with_reducible apply Vq.vblock
      | ((with_reducible apply Vq.vcond); exact rfl; dsimp only [Vq.pickC])
      | (dsimp only [Vq.afterSeq]; done)
      | ((with_reducible apply Vq.vab0); exact rfl)
      | ((with_reducible apply Vq.vab1); exact rfl)
      | ((with_reducible apply Vq.vabr); exact rfl)
      | ((with_reducible apply Vq.vabx); (· decide); exact rfl)
      | dsimp only [Vq.afterSeq])
      dsimp only [afterSeq]
      (with_reducible apply vblock)
      · exact outer35 G ns hns (by omega) ns.length 0 m b _ (by omega) (by omega) (by omega) rfl
      · apply vabkx (τ := { slots := (.gone 0 :: .gone 0 :: .gone 0 :: .gone 0 :: .gone 0 :: .xsl 0 1 (b ++ dgs ns) :: .gone 0 :: .gone 0 :: .gone 0 :: .gone 0 :: .gone 0 :: .gone 0 :: .gone 0 :: .gone 0 :: .gone 0 :: .gone 0 :: .gone 0 :: .gone 0 :: .gone 0 :: .gone 0 :: .gone 0 :: .gone 0 :: .gone 0 :: .gone 0 :: .gone 0 :: .gone 0 :: .gone 0 :: .gone 0 :: .gone 0 :: .gone 0 :: .gone 0 :: .gone 0 :: .gone 0 :: []), objs := [] }) rfl
        exact rfl
    dsimp only [afterSeq]
    repeat' (first
      | with_reducible exact Vq.runOps_nil
      | ((with_reducible apply Vq.runOps_cons); exact rfl; (try simp only [St.setS, St.slot, St.setO, St.obj, List.set_cons_succ, List.set_cons_zero, List.getD_cons_succ, List.getD_cons_zero, V.withLeaves, List.headD_cons, V.borrow, freeze1, borrows, borrow1, V.leaves, V.nextg, List.length_cons, List.length_nil, Nat.reduceAdd, Nat.reduceSub, layTup, obj1, splice, List.take_succ_cons, List.take_zero, List.drop_succ_cons, List.drop_zero, List.cons_append, List.nil_append, List.append_nil, Bool.false_eq_true, if_true, if_false, Bool.not_true, Bool.not_false]))
      | with_reducible exact Vq.runDraw_nil
      | ((with_reducible apply Vq.runDraw_cons); exact rfl; exact rfl; exact rfl; (try simp only [St.setS, St.slot, St.setO, St.obj, List.set_cons_succ, List.set_cons_zero, List.getD_cons_succ, List.getD_cons_zero, V.withLeaves, List.headD_cons, V.borrow, freeze1, borrows, borrow1, V.leaves, V.nextg, List.length_cons, List.length_nil, Nat.reduceAdd, Nat.reduceSub, layTup, obj1, splice, List.take_succ_cons, List.take_zero, List.drop_succ_cons, List.drop_zero, List.cons_append, List.nil_append, List.append_nil, Bool.false_eq_true, if_true, if_false, Bool.not_true, Bool.not_false]))
      | ((with_reducible apply Vq.vret); exact rfl)
      | ((with_reducible apply Vq.vskip); exact rfl)
      | ((with_reducible apply Vq.vexit); exact rfl)
      | ((with_reducible apply Vq.vregion); case hr => exact rfl)
      | ((with_reducible apply Vq.vdraw); case hr => exact rfl)
      | with_reducible apply Vq.vseq
      | with_reducible apply Vq.vblock
      | ((with_reducible apply Vq.vcond); exact rfl; dsimp only [Vq.pickC])
      | (dsimp only [Vq.afterSeq]; done)
      | ((with_reducible apply Vq.vab0); exact rfl)
      | ((with_reducible apply Vq.vab1); exact rfl)
      | ((with_reducible apply Vq.vabr); exact rfl)
      | ((with_reducible apply Vq.vabx); (· decide); exact rfl)
      | dsimp only [Vq.afterSeq])
  · exact .inr rfl
  · first | exact rfl | (apply Vq.vfin; (· apply Vq.run_asks; (· simp); (try simp only [List.take_length, List.drop_zero]); (first | apply Vq.run_if trivial | apply Vq.run_if rfl); unfold Vq.sHome; simp only [Vq.Prog.run]; apply Vq.run_asks; (· exact Nat.zero_lt_one); exact rfl); (· exact rfl); (· exact rfl); (· decide); (· exact rfl); (· exact rfl))
end S2
end Go.Vq

namespace Go.Vq
namespace S3
open Go S2
set_option maxRecDepth 1000000
/-- packhorse/packet.Number -/
def b35 : VCode :=
  .seq
    (.region [{ dst := (some 4), op := .assign (.val (.nilS 1)), guard := none, before := 0 }] false)
    (.seq
      (.region [{ dst := (some 8), op := .move (.tmp 0), guard := none, before := 0 },
        { dst := (some 9), op := .call true 53 0 [(.tmp 8)], guard := none, before := 1 },
        { dst := (some 5), op := .assign (.tmp 9), guard := none, before := 3 }] false)
      (.seq
        (.seq
          (.region [{ dst := (some 10), op := .move (.tmp 1), guard := none, before := 0 },
            { dst := (some 11), op := .len (.slc 1) (.tmp 10), guard := none, before := 1 },
            { dst := (some 12), op := .move (.val (.int .i64 0)), guard := none, before := 0 }] false)
          (.block 0 (some [5]) (.loop (some [1, 5, 10, 11, 12])
              (.seq
                (.region [{ dst := (some 13), op := .bin (.lss) (.tmp 12) (.tmp 11), guard := none, before := 0 }] false)
                (.seq
                  (.cond (.tmp 13)
                    (.skip)
                    (.exit 0))
                  (.seq
                    (.block 1 (some [1, 5, 10, 11, 12]) (.seq
                        (.region [{ dst := (some 14), op := .indexAddr none 1 (.tmp 10) (.tmp 12), guard := none, before := 0 },
                          { dst := (some 15), op := .load false 1 (.tmp 14), guard := none, before := 1 },
                          { dst := (some 7), op := .assign (.tmp 15), guard := none, before := 3 }] false)
                        (.seq
                          (.block 2 (some [1, 5, 7, 10, 11, 12, 14, 15]) (.loop (some [1, 5, 7, 10, 11, 12, 14, 15])
                              (.seq
                                (.seq
                                  (.region [{ dst := (some 16), op := .move (.tmp 7), guard := none, before := 0 },
                                    { dst := (some 17), op := .bin (.geq) (.tmp 16) (.val (.int .u64 128)), guard := none, before := 1 }] false)
                                  (.cond (.tmp 17)
                                    (.skip)
                                    (.exit 2)))
                                (.seq
                                  (.block 3 none (.region [{ dst := (some 20), op := .move (.tmp 5), guard := none, before := 0 },
                                      { dst := (some 21), op := .move (.tmp 7), guard := none, before := 0 },
                                      { dst := (some 22), op := .conv (.int (.u8)) (.tmp 21), guard := none, before := 2 },
                                      { dst := (some 23), op := .bin (.or) (.tmp 22) (.val (.int .u8 128)), guard := none, before := 6 },
                                      { dst := (some 24), op := .buildSlice 1 [(.int .u8 0)] [(0, (.tmp 23))], guard := none, before := 14 },
                                      { dst := (some 25), op := .append 1 1 (.tmp 20) (.tmp 24), guard := none, before := 31 },
                                      { dst := (some 5), op := .assign (.tmp 25), guard := none, before := 63 }] false))
                                  (.region [{ dst := (some 18), op := .move (.tmp 7), guard := none, before := 0 },
                                    { dst := (some 19), op := .bin (.shr) (.tmp 18) (.val (.int .u64 7)), guard := none, before := 1 },
                                    { dst := (some 7), op := .assign (.tmp 19), guard := none, before := 3 }] false)))))
                          (.region [{ dst := (some 26), op := .move (.tmp 5), guard := none, before := 0 },
                            { dst := (some 27), op := .move (.tmp 7), guard := none, before := 0 },
                            { dst := (some 28), op := .conv (.int (.u8)) (.tmp 27), guard := none, before := 2 },
                            { dst := (some 29), op := .buildSlice 1 [(.int .u8 0)] [(0, (.tmp 28))], guard := none, before := 6 },
                            { dst := (some 30), op := .append 1 1 (.tmp 26) (.tmp 29), guard := none, before := 15 },
                            { dst := (some 5), op := .assign (.tmp 30), guard := none, before := 31 }] false))))
                    (.region [{ dst := (some 31), op := .bin (.add) (.tmp 12) (.val (.int .i64 1)), guard := none, before := 0 },
                      { dst := (some 12), op := .move (.tmp 31), guard := none, before := 1 }] false)))))))
        (.seq
          (.region [{ dst := (some 32), op := .move (.tmp 5), guard := none, before := 0 },
            { dst := (some 4), op := .assign (.tmp 32), guard := none, before := 1 }] false)
          (.ret))))
def v35 : VFunc := { nparams := 2, ntmps := 33, nsites := 0, results := [.tmp 4], body := b35 }
/-- packhorse/packhorselaw06.PacketShort -/
def b10 : VCode :=
  .seq
    (.region [{ dst := (some 4), op := .assign (.val (.bool false)), guard := none, before := 0 }] false)
    (.seq
      (.seq
        (.region [{ dst := (some 10), op := .call true 31 0 [], guard := none, before := 0 },
          { dst := (some 11), op := .un (.not) (.tmp 10), guard := none, before := 1 }] false)
        (.cond (.tmp 11)
          (.seq
            (.region [{ dst := (some 4), op := .assign (.val (.bool false)), guard := none, before := 0 }] false)
            (.ret))
          (.skip)))
      (.seq
        (.region [{ dst := (some 12), op := .move (.tmp 0), guard := none, before := 0 },
          { dst := (some 13), op := .buildSlice 1 [(.int .u64 0)] [(0, (.tmp 12))], guard := none, before := 1 },
          { dst := (some 14), op := .call true 35 0 [(.val (.nilS 1)), (.tmp 13)], guard := none, before := 3 },
          { dst := (some 15), op := .conv (.text) (.tmp 14), guard := none, before := 7 },
          { dst := (some 16), op := .move (.tmp 1), guard := none, before := 0 },
          { dst := (some 17), op := .buildSlice 1 [(.int .u64 0)] [(0, (.tmp 16))], guard := none, before := 16 },
          { dst := (some 18), op := .call true 35 0 [(.val (.nilS 1)), (.tmp 17)], guard := none, before := 55 },
          { dst := (some 19), op := .conv (.text) (.tmp 18), guard := none, before := 119 },
          { dst := (some 5), op := .assign (.tmp 15), guard := none, before := 127 },
          { dst := (some 6), op := .assign (.tmp 19), guard := none, before := 511 }] true)
        (.seq
          (.region [{ dst := (some 7), op := .assign (.val (.int .i64 1)), guard := none, before := 0 }] false)
          (.seq
            (.seq
              (.region [{ dst := (some 20), op := .move (.tmp 0), guard := none, before := 0 },
                { dst := (some 8), op := .assign (.tmp 20), guard := none, before := 1 }] false)
              (.block 0 (some [0, 1, 5, 6, 7]) (.loop (some [0, 1, 5, 6, 7, 8, 20])
                  (.seq
                    (.seq
                      (.region [{ dst := (some 21), op := .move (.tmp 8), guard := none, before := 0 },
                        { dst := (some 22), op := .bin (.geq) (.tmp 21) (.val (.int .u64 128)), guard := none, before := 1 }] false)
                      (.cond (.tmp 22)
                        (.skip)
                        (.exit 0)))
                    (.seq
                      (.block 1 none (.region [{ dst := (some 25), op := .move (.tmp 7), guard := none, before := 0 },
                          { dst := (some 26), op := .bin (.add) (.tmp 25) (.val (.int .i64 1)), guard := none, before := 1 },
                          { dst := (some 7), op := .assign (.tmp 26), guard := none, before := 3 }] false))
                      (.region [{ dst := (some 23), op := .move (.tmp 8), guard := none, before := 0 },
                        { dst := (some 24), op := .bin (.quo) (.tmp 23) (.val (.int .u64 128)), guard := none, before := 1 },
                        { dst := (some 8), op := .assign (.tmp 24), guard := none, before := 3 }] false))))))
            (.seq
              (.region [{ dst := (some 27), op := .move (.tmp 5), guard := none, before := 0 },
                { dst := (some 28), op := .len (.str) (.tmp 27), guard := none, before := 1 },
                { dst := (some 29), op := .move (.tmp 6), guard := none, before := 0 },
                { dst := (some 30), op := .len (.str) (.tmp 29), guard := none, before := 4 },
                { dst := (some 31), op := .bin (.leq) (.tmp 28) (.tmp 30), guard := none, before := 15 },
                { dst := (some 32), op := .move (.tmp 31), guard := none, before := 31 },
                { dst := (some 33), op := .move (.tmp 6), guard := (some (32, true)), before := 63 },
                { dst := (some 34), op := .move (.tmp 5), guard := (some (32, true)), before := 63 },
                { dst := (some 35), op := .len (.str) (.tmp 34), guard := (some (32, true)), before := 191 },
                { dst := (some 36), op := .slice (.str) (.tmp 33) none (some (.tmp 35)) none, guard := (some (32, true)), before := 511 },
                { dst := (some 37), op := .move (.tmp 5), guard := (some (32, true)), before := 63 },
                { dst := (some 38), op := .eq false (.num) (.tmp 36) (.tmp 37), guard := (some (32, true)), before := 2047 },
                { dst := (some 39), op := .pick (.tmp 32) (.tmp 38) (.val (.bool false)), guard := none, before := 4095 },
                { dst := (some 9), op := .assign (.tmp 39), guard := none, before := 8191 }] false)
              (.seq
                (.region [{ dst := (some 40), op := .move (.tmp 5), guard := none, before := 0 },
                  { dst := (some 41), op := .len (.str) (.tmp 40), guard := none, before := 1 },
                  { dst := (some 42), op := .move (.tmp 7), guard := none, before := 0 },
                  { dst := (some 43), op := .eq false (.num) (.tmp 41) (.tmp 42), guard := none, before := 7 },
                  { dst := (some 44), op := .move (.tmp 43), guard := none, before := 15 },
                  { dst := (some 45), op := .move (.tmp 9), guard := (some (44, true)), before := 31 },
                  { dst := (some 46), op := .move (.tmp 0), guard := (some (44, true)), before := 31 },
                  { dst := (some 47), op := .move (.tmp 1), guard := (some (44, true)), before := 31 },
                  { dst := (some 48), op := .eq false (.num) (.tmp 46) (.tmp 47), guard := (some (44, true)), before := 223 },
                  { dst := (some 49), op := .eq false (.bool) (.tmp 45) (.tmp 48), guard := (some (44, true)), before := 511 },
                  { dst := (some 50), op := .pick (.tmp 44) (.tmp 49) (.val (.bool false)), guard := none, before := 1023 },
                  { dst := (some 4), op := .assign (.tmp 50), guard := none, before := 2047 }] false)
                (.ret)))))))
def v10 : VFunc := { nparams := 2, ntmps := 51, nsites := 0, results := [.tmp 4], body := b10 }

variable (cal : Callee) (its : FuncId → Iter) (again : Nat → VCode → St → Option (Out × St))
def body10 : VCode := (.seq (.seq (.region [{ dst := (some 21), op := .move (.tmp 8), guard := none, before := 0 }, { dst := (some 22), op := .bin (.geq) (.tmp 21) (.val (.int .u64 128)), guard := none, before := 1 }] false) (.cond (.tmp 22) (.skip) (.exit 0))) (.seq (.block 1 none (.region [{ dst := (some 25), op := .move (.tmp 7), guard := none, before := 0 }, { dst := (some 26), op := .bin (.add) (.tmp 25) (.val (.int .i64 1)), guard := none, before := 1 }, { dst := (some 7), op := .assign (.tmp 26), guard := none, before := 3 }] false)) (.region [{ dst := (some 23), op := .move (.tmp 8), guard := none, before := 0 }, { dst := (some 24), op := .bin (.quo) (.tmp 23) (.val (.int .u64 128)), guard := none, before := 1 }, { dst := (some 8), op := .assign (.tmp 24), guard := none, before := 3 }] false)))
def st10 (a b : Int) (x y : List UInt8) (c n : Int) : St :=
  { slots := (.int .u64 a :: .int .u64 b :: .gone 0 :: .gone 0 :: .gone 0 :: .str x :: .str y :: .int .i64 c :: .int .u64 n :: .gone 0 :: .gone 0 :: .gone 0 :: .gone 0 :: .gone 0 :: .gone 0 :: .gone 0 :: .gone 0 :: .gone 0 :: .gone 0 :: .gone 0 :: .int .u64 a :: .gone 0 :: .gone 0 :: .gone 0 :: .gone 0 :: .gone 0 :: .gone 0 :: .gone 0 :: .gone 0 :: .gone 0 :: .gone 0 :: .gone 0 :: .gone 0 :: .gone 0 :: .gone 0 :: .gone 0 :: .gone 0 :: .gone 0 :: .gone 0 :: .gone 0 :: .gone 0 :: .gone 0 :: .gone 0 :: .gone 0 :: .gone 0 :: .gone 0 :: .gone 0 :: .gone 0 :: .gone 0 :: .gone 0 :: .gone 0 :: []), objs := [] }
def ex10 (a b : Int) (x y : List UInt8) (c n : Int) : St :=
  { slots := (.int .u64 a :: .int .u64 b :: .gone 0 :: .gone 0 :: .gone 0 :: .str x :: .str y :: .int .i64 c :: .int .u64 n :: .gone 0 :: .gone 0 :: .gone 0 :: .gone 0 :: .gone 0 :: .gone 0 :: .gone 0 :: .gone 0 :: .gone 0 :: .gone 0 :: .gone 0 :: .int .u64 a :: .int .u64 n :: .bool false :: .gone 0 :: .gone 0 :: .gone 0 :: .gone 0 :: .gone 0 :: .gone 0 :: .gone 0 :: .gone 0 :: .gone 0 :: .gone 0 :: .gone 0 :: .gone 0 :: .gone 0 :: .gone 0 :: .gone 0 :: .gone 0 :: .gone 0 :: .gone 0 :: .gone 0 :: .gone 0 :: .gone 0 :: .gone 0 :: .gone 0 :: .gone 0 :: .gone 0 :: .gone 0 :: .gone 0 :: .gone 0 :: []), objs := [] }
theorem round10 (a b : Int) (x y : List UInt8) (c n : Int) (h : decide (n ≥ 128) = true) :
    ∃ s, step cal its again 0 body10 (st10 a b x y c n) = some (.normal, s) ∧ rebase? (some [0, 1, 5, 6, 7, 8, 20]) 0 s = st10 a b x y (IntKind.i64.wrap (c + 1)) (IntKind.u64.wrap (n.tdiv 128)) := by
  unfold body10 st10
  apply vround
  · repeat' (first
      | with_reducible exact Vq.runOps_nil
      | ((with_reducible apply Vq.runOps_cons); exact rfl; (try simp only [St.setS, St.slot, St.setO, St.obj, List.set_cons_succ, List.set_cons_zero, List.getD_cons_succ, List.getD_cons_zero, V.withLeaves, List.headD_cons, V.borrow, freeze1, borrows, borrow1, V.leaves, V.nextg, List.length_cons, List.length_nil, Nat.reduceAdd, Nat.reduceSub, layTup, obj1, splice, List.take_succ_cons, List.take_zero, List.drop_succ_cons, List.drop_zero, List.cons_append, List.nil_append, List.append_nil, Bool.false_eq_true, if_true, if_false, Bool.not_true, Bool.not_false, h]))
      | with_reducible exact Vq.runDraw_nil
      | ((with_reducible apply Vq.runDraw_cons); exact rfl; exact rfl; exact rfl; (try simp only [St.setS, St.slot, St.setO, St.obj, List.set_cons_succ, List.set_cons_zero, List.getD_cons_succ, List.getD_cons_zero, V.withLeaves, List.headD_cons, V.borrow, freeze1, borrows, borrow1, V.leaves, V.nextg, List.length_cons, List.length_nil, Nat.reduceAdd, Nat.reduceSub, layTup, obj1, splice, List.take_succ_cons, List.take_zero, List.drop_succ_cons, List.drop_zero, List.cons_append, List.nil_append, List.append_nil, Bool.false_eq_true, if_true, if_false, Bool.not_true, Bool.not_false, h]))
      | ((with_reducible apply Vq.vret); exact rfl)
      | ((with_reducible apply Vq.vskip); exact rfl)
      | ((with_reducible apply Vq.vexit); exact rfl)
      | ((with_reducible apply Vq.vregion); case hr => exact rfl)
      | ((with_reducible apply Vq.vdraw); case hr => exact rfl)
      | with_reducible apply Vq.vseq
      | with_reducible apply Vq.vblock
      | ((with_reducible apply Vq.vcond); exact rfl; dsimp only [Vq.pickC])
      | (dsimp only [Vq.afterSeq]; done)
      | ((with_reducible apply Vq.vab0); exact rfl)
      | ((with_reducible apply Vq.vab1); exact rfl)
      | ((with_reducible apply Vq.vabr); exact rfl)
      | ((with_reducible apply Vq.vabx); (· decide); exact rfl)
      | dsimp only [Vq.afterSeq])
  · exact rfl
theorem out10 (a b : Int) (x y : List UInt8) (c n : Int) (h : decide (n ≥ 128) = false) : step cal its again 0 body10 (st10 a b x y c n) = some (.exit 0, ex10 a b x y c n) := by
  unfold body10 st10 ex10
  repeat' (first
      | with_reducible exact Vq.runOps_nil
      | ((with_reducible apply Vq.runOps_cons); exact rfl; (try simp only [St.setS, St.slot, St.setO, St.obj, List.set_cons_succ, List.set_cons_zero, List.getD_cons_succ, List.getD_cons_zero, V.withLeaves, List.headD_cons, V.borrow, freeze1, borrows, borrow1, V.leaves, V.nextg, List.length_cons, List.length_nil, Nat.reduceAdd, Nat.reduceSub, layTup, obj1, splice, List.take_succ_cons, List.take_zero, List.drop_succ_cons, List.drop_zero, List.cons_append, List.nil_append, List.append_nil, Bool.false_eq_true, if_true, if_false, Bool.not_true, Bool.not_false, h]))
      | with_reducible exact Vq.runDraw_nil
      | ((with_reducible apply Vq.runDraw_cons); exact rfl; exact rfl; exact rfl; (try simp only [St.setS, St.slot, St.setO, St.obj, List.set_cons_succ, List.set_cons_zero, List.getD_cons_succ, List.getD_cons_zero, V.withLeaves, List.headD_cons, V.borrow, freeze1, borrows, borrow1, V.leaves, V.nextg, List.length_cons, List.length_nil, Nat.reduceAdd, Nat.reduceSub, layTup, obj1, splice, List.take_succ_cons, List.take_zero, List.drop_succ_cons, List.drop_zero, List.cons_append, List.nil_append, List.append_nil, Bool.false_eq_true, if_true, if_false, Bool.not_true, Bool.not_false, h]))
      | ((with_reducible apply Vq.vret); exact rfl)
      | ((with_reducible apply Vq.vskip); exact rfl)
      | ((with_reducible apply Vq.vexit); exact rfl)
      | ((with_reducible apply Vq.vregion); case hr => exact rfl)
      | ((with_reducible apply Vq.vdraw); case hr => exact rfl)
      | with_reducible apply Vq.vseq
      | with_reducible apply Vq.vblock
      | ((with_reducible apply Vq.vcond); exact rfl; dsimp only [Vq.pickC])
      | (dsimp only [Vq.afterSeq]; done)
      | ((with_reducible apply Vq.vab0); exact rfl)
      | ((with_reducible apply Vq.vab1); exact rfl)
      | ((with_reducible apply Vq.vabr); exact rfl)
      | ((with_reducible apply Vq.vabx); (· decide); exact rfl)
      | dsimp only [Vq.afterSeq])
/-- How many bytes. -/
def szl : Nat → Int → Int → Int × Int
  | 0, c, n => (c, n)
  | k + 1, c, n => if n ≥ 128 then szl k (IntKind.i64.wrap (c + 1)) (IntKind.u64.wrap (n.tdiv 128)) else (c, n)
theorem loop10 (G : VProg) (a b : Int) (x y : List UInt8) : ∀ (k m : Nat) (c n : Int) (σ : St), 0 ≤ n → n < 128 ^ (k + 1) → n < 18446744073709551616 → k ≤ m → rebase? (some [0, 1, 5, 6, 7, 8, 20]) 0 σ = st10 a b x y c n →
    step (call G m) (itersOf G) (exec G m) 0 (.loop (some [0, 1, 5, 6, 7, 8, 20]) body10) σ = some (.exit 0, ex10 a b x y (szl k c n).1 (szl k c n).2)
  | 0, m, c, n, σ, h0, hn, hn2, hm, hs => by
    refine step_loop_out hs ?_ (by intro e; cases e)
    simp only [szl]
    exact out10 _ _ _ a b x y c n (by simpa using hn)
  | k + 1, m, c, n, σ, h0, hn, hn2, hm, hs => by
    cases h : decide (n ≥ 128) with
    | false =>
      refine step_loop_out hs ?_ (by intro e; cases e)
      have h' : ¬ n ≥ 128 := by simpa using h
      simp only [szl, if_neg h']
      exact out10 _ _ _ a b x y c n h
    | true =>
      have h' : n ≥ 128 := by simpa using h
      cases m with
      | zero => omega
      | succ m =>
      obtain ⟨r, h1, h2⟩ := round10 (call G (m + 1)) (itersOf G) (exec G (m + 1)) a b x y c n h
      have e : IntKind.u64.wrap (n.tdiv 128) = n / 128 := by
        rw [Int.tdiv_eq_ediv_of_nonneg h0]
        simp only [IntKind.wrap, IntKind.bits, IntKind.signed]
        simp
        omega
      have h3 := loop10 G a b x y k m _ _ r (by rw [e]; omega) (by rw [e]; rw [Int.pow_succ] at hn; omega) (by rw [e]; omega) (by omega) h2
      refine step_loop hs h1 ?_
      rw [exec_succ, h3]
      simp only [szl, if_pos h']
/-- The bytes of a number. -/
def pb : Nat → Int → List UInt8
  | 0, _ => []
  | k + 1, n => if n ≥ 128 then UInt8.ofNat (IntKind.u8.wrap ((BitVec.ofInt 8 (IntKind.u8.wrap n)) ||| (BitVec.ofInt 8 128)).toNat).toNat :: pb k (n.fdiv (2 ^ 7)) else []
def dgB (n : Int) : List UInt8 := pb 9 n ++ [UInt8.ofNat (IntKind.u8.wrap (lst 9 n)).toNat]
theorem textV_pre : ∀ (k : Nat) (n : Int) (es : List V) (bs : List UInt8), textV es = some bs → textV (pre k n ++ es) = some (pb k n ++ bs)
  | 0, n, es, bs, h => h
  | k + 1, n, es, bs, h => by
    unfold pre pb
    split
    · simp only [List.cons_append, orb, textV, textV_pre k _ es bs h, Option.map_some]
    · exact h
theorem textV_dgs (n : Int) : textV ([] ++ dgs [n]) = some (dgB n) := by
  simp only [dgs, List.flatMap_cons, List.flatMap_nil, List.append_nil, List.nil_append, dg, dgB]
  exact textV_pre 9 n _ _ rfl
theorem dgs_noslice (ns : List Int) : ∀ x ∈ [] ++ dgs ns, x.noslice = true := by
  intro x hx
  simp only [List.nil_append, dgs, List.mem_flatMap] at hx
  obtain ⟨n, _, hx⟩ := hx
  have hpre : ∀ k n, ∀ x ∈ pre k n, x.noslice = true := by
    intro k
    induction k with
    | zero => intro n x hx; simp [pre] at hx
    | succ k ih =>
      intro n x hx
      unfold pre at hx
      split at hx
      · rcases List.mem_cons.1 hx with rfl | hx
        · rfl
        · exact ih _ x hx
      · cases hx
  rcases List.mem_append.1 hx with hx | hx
  · exact hpre _ _ x hx
  · simp at hx; subst hx; rfl
def mid10 (a b : Int) (x y : List UInt8) (c : Int) : St :=
  { slots := (.int .u64 a :: .int .u64 b :: .gone 0 :: .gone 0 :: .gone 0 :: .str x :: .str y :: .int .i64 c :: .gone 0 :: .gone 0 :: .gone 0 :: .gone 0 :: .gone 0 :: .gone 0 :: .gone 0 :: .gone 0 :: .gone 0 :: .gone 0 :: .gone 0 :: .gone 0 :: .gone 0 :: .gone 0 :: .gone 0 :: .gone 0 :: .gone 0 :: .gone 0 :: .gone 0 :: .gone 0 :: .gone 0 :: .gone 0 :: .gone 0 :: .gone 0 :: .gone 0 :: .gone 0 :: .gone 0 :: .gone 0 :: .gone 0 :: .gone 0 :: .gone 0 :: .gone 0 :: .gone 0 :: .gone 0 :: .gone 0 :: .gone 0 :: .gone 0 :: .gone 0 :: .gone 0 :: .gone 0 :: .gone 0 :: .gone 0 :: .gone 0 :: []), objs := [] }
def rest10 : VCode := match b10 with | .seq _ (.seq _ (.seq _ (.seq _ (.seq _ c)))) => c | _ => .skip
theorem tail10 (a b : Int) (hsz : (((dgB a).length : Int) == (szl 9 1 a).1) = true) (hbeg : (List.take (dgB a).length (dgB b) == dgB a) = (a == b)) (hno : (dgB b).length < (dgB a).length → (a == b) = false) :
    ∃ σ, step cal its again 0 rest10 (mid10 a b (dgB a) (dgB b) (szl 9 1 a).1) = some (.ret, σ) ∧ finish v10 0 σ = some (.bool true, []) := by
  unfold rest10 b10 mid10
  dsimp only
  cases hle : decide (((dgB a).length : Int) ≤ ((dgB b).length : Int)) with
  | false =>
    have hab := hno (by simpa using hle)
    apply vend
    · repeat' (first
      | with_reducible exact Vq.runOps_nil
      | ((with_reducible apply Vq.runOps_cons); exact rfl; (try simp only [St.setS, St.slot, St.setO, St.obj, List.set_cons_succ, List.set_cons_zero, List.getD_cons_succ, List.getD_cons_zero, V.withLeaves, List.headD_cons, V.borrow, freeze1, borrows, borrow1, V.leaves, V.nextg, List.length_cons, List.length_nil, Nat.reduceAdd, Nat.reduceSub, layTup, obj1, splice, List.take_succ_cons, List.take_zero, List.drop_succ_cons, List.drop_zero, List.cons_append, List.nil_append, List.append_nil, Bool.false_eq_true, if_true, if_false, Bool.not_true, Bool.not_false, hle, hsz, hab, beq_self_eq_true]))
      | with_reducible exact Vq.runDraw_nil
      | ((with_reducible apply Vq.runDraw_cons); exact rfl; exact rfl; exact rfl; (try simp only [St.setS, St.slot, St.setO, St.obj, List.set_cons_succ, List.set_cons_zero, List.getD_cons_succ, List.getD_cons_zero, V.withLeaves, List.headD_cons, V.borrow, freeze1, borrows, borrow1, V.leaves, V.nextg, List.length_cons, List.length_nil, Nat.reduceAdd, Nat.reduceSub, layTup, obj1, splice, List.take_succ_cons, List.take_zero, List.drop_succ_cons, List.drop_zero, List.cons_append, List.nil_append, List.append_nil, Bool.false_eq_true, if_true, if_false, Bool.not_true, Bool.not_false, hle, hsz, hab, beq_self_eq_true]))
      | ((with_reducible apply Vq.vret); exact rfl)
      | ((with_reducible apply Vq.vskip); exact rfl)
      | ((with_reducible apply Vq.vexit); exact rfl)
      | ((with_reducible apply Vq.vregion); case hr => exact rfl)
      | ((with_reducible apply Vq.vdraw); case hr => exact rfl)
      | with_reducible apply Vq.vseq
      | with_reducible apply Vq.vblock
      | ((with_reducible apply Vq.vcond); exact rfl; dsimp only [Vq.pickC])
      | (dsimp only [Vq.afterSeq]; done)
      | ((with_reducible apply Vq.vab0); exact rfl)
      | ((with_reducible apply Vq.vab1); exact rfl)
      | ((with_reducible apply Vq.vabr); exact rfl)
      | ((with_reducible apply Vq.vabx); (· decide); exact rfl)
      | dsimp only [Vq.afterSeq])
    · exact rfl
  | true =>
    apply vend
    · (with_reducible apply Vq.vseq)
      · (with_reducible apply Vq.vregion); case hr => exact rfl
        iterate 9
          (with_reducible apply Vq.runOps_cons)
          exact rfl
          (try simp only [St.setS, St.slot, St.setO, St.obj, List.set_cons_succ, List.set_cons_zero, List.getD_cons_succ, List.getD_cons_zero, V.withLeaves, List.headD_cons, V.borrow, freeze1, borrows, borrow1, V.leaves, V.nextg, List.length_cons, List.length_nil, Nat.reduceAdd, Nat.reduceSub, layTup, obj1, splice, List.take_succ_cons, List.take_zero, List.drop_succ_cons, List.drop_zero, List.cons_append, List.nil_append, List.append_nil, Bool.false_eq_true, if_true, if_false, Bool.not_true, Bool.not_false, hle])
        (with_reducible apply Vq.runOps_cons)
        · apply run_asks
          · have : (dgB a).length ≤ (dgB b).length := by simpa using hle
            simp; omega
          exact rfl
        (try simp only [St.setS, St.slot, St.setO, St.obj, List.set_cons_succ, List.set_cons_zero, List.getD_cons_succ, List.getD_cons_zero, V.withLeaves, List.headD_cons, V.borrow, freeze1, borrows, borrow1, V.leaves, V.nextg, List.length_cons, List.length_nil, Nat.reduceAdd, Nat.reduceSub, layTup, obj1, splice, List.take_succ_cons, List.take_zero, List.drop_succ_cons, List.drop_zero, List.cons_append, List.nil_append, List.append_nil, Bool.false_eq_true, if_true, if_false, Bool.not_true, Bool.not_false, hle, Int.toNat_natCast, List.drop_zero, Nat.sub_zero, Int.toNat_zero])
        repeat' (first
      | with_reducible exact Vq.runOps_nil
      | ((with_reducible apply Vq.runOps_cons); exact rfl; (try simp only [St.setS, St.slot, St.setO, St.obj, List.set_cons_succ, List.set_cons_zero, List.getD_cons_succ, List.getD_cons_zero, V.withLeaves, List.headD_cons, V.borrow, freeze1, borrows, borrow1, V.leaves, V.nextg, List.length_cons, List.length_nil, Nat.reduceAdd, Nat.reduceSub, layTup, obj1, splice, List.take_succ_cons, List.take_zero, List.drop_succ_cons, List.drop_zero, List.cons_append, List.nil_append, List.append_nil, Bool.false_eq_true, if_true, if_false, Bool.not_true, Bool.not_false, hle, hsz, hbeg, beq_self_eq_true]))
      | with_reducible exact Vq.runDraw_nil
      | ((with_reducible apply Vq.runDraw_cons); exact rfl; exact rfl; exact rfl; (try simp only [St.setS, St.slot, St.setO, St.obj, List.set_cons_succ, List.set_cons_zero, List.getD_cons_succ, List.getD_cons_zero, V.withLeaves, List.headD_cons, V.borrow, freeze1, borrows, borrow1, V.leaves, V.nextg, List.length_cons, List.length_nil, Nat.reduceAdd, Nat.reduceSub, layTup, obj1, splice, List.take_succ_cons, List.take_zero, List.drop_succ_cons, List.drop_zero, List.cons_append, List.nil_append, List.append_nil, Bool.false_eq_true, if_true, if_false, Bool.not_true, Bool.not_false, hle, hsz, hbeg, beq_self_eq_true]))
      | ((with_reducible apply Vq.vret); exact rfl)
      | ((with_reducible apply Vq.vskip); exact rfl)
      | ((with_reducible apply Vq.vexit); exact rfl)
      | ((with_reducible apply Vq.vregion); case hr => exact rfl)
      | ((with_reducible apply Vq.vdraw); case hr => exact rfl)
      | with_reducible apply Vq.vseq
      | with_reducible apply Vq.vblock
      | ((with_reducible apply Vq.vcond); exact rfl; dsimp only [Vq.pickC])
      | (dsimp only [Vq.afterSeq]; done)
      | ((with_reducible apply Vq.vab0); exact rfl)
      | ((with_reducible apply Vq.vab1); exact rfl)
      | ((with_reducible apply Vq.vabr); exact rfl)
      | ((with_reducible apply Vq.vabx); (· decide); exact rfl)
      | dsimp only [Vq.afterSeq])
      repeat' (first
      | with_reducible exact Vq.runOps_nil
      | ((with_reducible apply Vq.runOps_cons); exact rfl; (try simp only [St.setS, St.slot, St.setO, St.obj, List.set_cons_succ, List.set_cons_zero, List.getD_cons_succ, List.getD_cons_zero, V.withLeaves, List.headD_cons, V.borrow, freeze1, borrows, borrow1, V.leaves, V.nextg, List.length_cons, List.length_nil, Nat.reduceAdd, Nat.reduceSub, layTup, obj1, splice, List.take_succ_cons, List.take_zero, List.drop_succ_cons, List.drop_zero, List.cons_append, List.nil_append, List.append_nil, Bool.false_eq_true, if_true, if_false, Bool.not_true, Bool.not_false, hle, hsz, hbeg, beq_self_eq_true]))
      | with_reducible exact Vq.runDraw_nil
      | ((with_reducible apply Vq.runDraw_cons); exact rfl; exact rfl; exact rfl; (try simp only [St.setS, St.slot, St.setO, St.obj, List.set_cons_succ, List.set_cons_zero, List.getD_cons_succ, List.getD_cons_zero, V.withLeaves, List.headD_cons, V.borrow, freeze1, borrows, borrow1, V.leaves, V.nextg, List.length_cons, List.length_nil, Nat.reduceAdd, Nat.reduceSub, layTup, obj1, splice, List.take_succ_cons, List.take_zero, List.drop_succ_cons, List.drop_zero, List.cons_append, List.nil_append, List.append_nil, Bool.false_eq_true, if_true, if_false, Bool.not_true, Bool.not_false, hle, hsz, hbeg, beq_self_eq_true]))
      | ((with_reducible apply Vq.vret); exact rfl)
      | ((with_reducible apply Vq.vskip); exact rfl)
      | ((with_reducible apply Vq.vexit); exact rfl)
      | ((with_reducible apply Vq.vregion); case hr => exact rfl)
      | ((with_reducible apply Vq.vdraw); case hr => exact rfl)
      | with_reducible apply Vq.vseq
      | with_reducible apply Vq.vblock
      | ((with_reducible apply Vq.vcond); exact rfl; dsimp only [Vq.pickC])
      | (dsimp only [Vq.afterSeq]; done)
      | ((with_reducible apply Vq.vab0); exact rfl)
      | ((with_reducible apply Vq.vab1); exact rfl)
      | ((with_reducible apply Vq.vabr); exact rfl)
      | ((with_reducible apply Vq.vabx); (· decide); exact rfl)
      | dsimp only [Vq.afterSeq])
    · exact rfl
theorem law10 (G : VProg) (hG : G 10 = some (.code v10)) (a b : Int) (M : Nat) (h31 : ∀ m, M ≤ m → call G m 31 [] [] = some (.bool true, [])) (h35 : ∀ n m, 0 ≤ n → n < 18446744073709551616 → 12 ≤ m → call G m 35 [.isl 0 1 [], .isl 0 1 [.int .u64 n]] [] = some (.xsl 0 1 ([] ++ dgs [n]), []))
    (ha : 0 ≤ a ∧ a < 18446744073709551616) (hb : 0 ≤ b ∧ b < 18446744073709551616)
    (hsz : (((dgB a).length : Int) == (szl 9 1 a).1) = true) (hbeg : (List.take (dgB a).length (dgB b) == dgB a) = (a == b)) (hno : (dgB b).length < (dgB a).length → (a == b) = false) (m : Nat) (hm : M + 13 ≤ m) :
    call G m 10 [.int .u64 a, .int .u64 b] [] = some (.bool true, []) := by
  obtain ⟨m, rfl⟩ : ∃ k, m = k + 1 := ⟨m - 1, by omega⟩
  obtain ⟨σe, he1, he2⟩ := tail10 (call G m) (itersOf G) (exec G m) a b hsz hbeg hno
  apply call_code (o := .ret) hG ⟨rfl, by decide⟩
  · change step (call G m) (itersOf G) (exec G m) 0 b10 _ = _
    (try simp only [Vq.start, List.length_cons, List.length_nil, List.map_cons, List.map_nil, List.cons_append, List.nil_append, List.replicate_succ, List.replicate_zero, Nat.reduceAdd, Nat.reduceSub, v10])
    unfold b10
    (with_reducible apply Vq.vseq)
    · repeat' (first
      | with_reducible exact Vq.runOps_nil
      | ((with_reducible apply Vq.runOps_cons); exact rfl; (try simp only [St.setS, St.slot, St.setO, St.obj, List.set_cons_succ, List.set_cons_zero, List.getD_cons_succ, List.getD_cons_zero, V.withLeaves, List.headD_cons, V.borrow, freeze1, borrows, borrow1, V.leaves, V.nextg, List.length_cons, List.length_nil, Nat.reduceAdd, Nat.reduceSub, layTup, obj1, splice, List.take_succ_cons, List.take_zero, List.drop_succ_cons, List.drop_zero, List.cons_append, List.nil_append, List.append_nil, Bool.false_eq_true, if_true, if_false, Bool.not_true, Bool.not_false]))
      | with_reducible exact Vq.runDraw_nil
      | ((with_reducible apply Vq.runDraw_cons); exact rfl; exact rfl; exact rfl; (try simp only [St.setS, St.slot, St.setO, St.obj, List.set_cons_succ, List.set_cons_zero, List.getD_cons_succ, List.getD_cons_zero, V.withLeaves, List.headD_cons, V.borrow, freeze1, borrows, borrow1, V.leaves, V.nextg, List.length_cons, List.length_nil, Nat.reduceAdd, Nat.reduceSub, layTup, obj1, splice, List.take_succ_cons, List.take_zero, List.drop_succ_cons, List.drop_zero, List.cons_append, List.nil_append, List.append_nil, Bool.false_eq_true, if_true, if_false, Bool.not_true, Bool.not_false]))
      | ((with_reducible apply Vq.vret); exact rfl)
      | ((with_reducible apply Vq.vskip); exact rfl)
      | ((with_reducible apply Vq.vexit); exact rfl)
      | ((with_reducible apply Vq.vregion); case hr => exact rfl)
      | ((with_reducible apply Vq.vdraw); case hr => exact rfl)
      | with_reducible apply Vq.vseq
      | with_reducible apply Vq.vblock
      | ((with_reducible apply Vq.vcond); exact rfl; dsimp only [Vq.pickC])
      | (dsimp only [Vq.afterSeq]; done)
      | ((with_reducible apply Vq.vab0); exact rfl)
      | ((with_reducible apply Vq.vab1); exact rfl)
      | ((with_reducible apply Vq.vabr); exact rfl)
      | ((with_reducible apply Vq.vabx); (· decide); exact rfl)
      | dsimp only [Vq.afterSeq])
    dsimp only [afterSeq]
    (with_reducible apply Vq.vseq)
    · repeat' (first
      | with_reducible exact Vq.runOps_nil
      | ((with_reducible apply Vq.runOps_cons); exact rfl; (try simp only [St.setS, St.slot, St.setO, St.obj, List.set_cons_succ, List.set_cons_zero, List.getD_cons_succ, List.getD_cons_zero, V.withLeaves, List.headD_cons, V.borrow, freeze1, borrows, borrow1, V.leaves, V.nextg, List.length_cons, List.length_nil, Nat.reduceAdd, Nat.reduceSub, layTup, obj1, splice, List.take_succ_cons, List.take_zero, List.drop_succ_cons, List.drop_zero, List.cons_append, List.nil_append, List.append_nil, Bool.false_eq_true, if_true, if_false, Bool.not_true, Bool.not_false]))
      | ((with_reducible apply Vq.runOps_cons); (apply Vq.vcallL; exact rfl; exact fun _ => rfl; exact fun _ => rfl; exact fun _ => rfl; exact fun _ => rfl; decide; exact rfl; exact rfl; (first | exact h31 _ (by omega)); exact rfl); (try simp only [St.setS, St.slot, St.setO, St.obj, List.set_cons_succ, List.set_cons_zero, List.getD_cons_succ, List.getD_cons_zero, V.withLeaves, List.headD_cons, V.borrow, freeze1, borrows, borrow1, V.leaves, V.nextg, List.length_cons, List.length_nil, Nat.reduceAdd, Nat.reduceSub, layTup, obj1, splice, List.take_succ_cons, List.take_zero, List.drop_succ_cons, List.drop_zero, List.cons_append, List.nil_append, List.append_nil, Bool.false_eq_true, if_true, if_false, Bool.not_true, Bool.not_false]))
      | ((with_reducible apply Vq.runOps_cons); (apply Vq.vcallA; exact rfl; exact fun _ => rfl; exact rfl; (first | exact h31 _ (by omega)); (first | exact rfl | (simp [Vq.V.apart, Vq.V.leaves, Vq.V.noslice]; done) | (simp [Vq.V.apart, Vq.V.leaves, Vq.V.noslice]; assumption)); exact rfl); (try simp only [St.setS, St.slot, St.setO, St.obj, List.set_cons_succ, List.set_cons_zero, List.getD_cons_succ, List.getD_cons_zero, V.withLeaves, List.headD_cons, V.borrow, freeze1, borrows, borrow1, V.leaves, V.nextg, List.length_cons, List.length_nil, Nat.reduceAdd, Nat.reduceSub, layTup, obj1, splice, List.take_succ_cons, List.take_zero, List.drop_succ_cons, List.drop_zero, List.cons_append, List.nil_append, List.append_nil, Bool.false_eq_true, if_true, if_false, Bool.not_true, Bool.not_false]))
      | with_reducible exact Vq.runDraw_nil
      | ((with_reducible apply Vq.runDraw_cons); exact rfl; exact rfl; exact rfl; (try simp only [St.setS, St.slot, St.setO, St.obj, List.set_cons_succ, List.set_cons_zero, List.getD_cons_succ, List.getD_cons_zero, V.withLeaves, List.headD_cons, V.borrow, freeze1, borrows, borrow1, V.leaves, V.nextg, List.length_cons, List.length_nil, Nat.reduceAdd, Nat.reduceSub, layTup, obj1, splice, List.take_succ_cons, List.take_zero, List.drop_succ_cons, List.drop_zero, List.cons_append, List.nil_append, List.append_nil, Bool.false_eq_true, if_true, if_false, Bool.not_true, Bool.not_false]))
      | ((with_reducible apply Vq.vret); exact rfl)
      | ((with_reducible apply Vq.vskip); exact rfl)
      | ((with_reducible apply Vq.vexit); exact rfl)
      | ((with_reducible apply Vq.vregion); case hr => exact rfl)
      | ((with_reducible apply Vq.vdraw); case hr => exact rfl)
      | with_reducible apply Vq.vseq
      | with_reducible apply Vq.vblock
      | ((with_reducible apply Vq.vcond); exact rfl; dsimp only [Vq.pickC])
      | (dsimp only [Vq.afterSeq]; done)
      | ((with_reducible apply Vq.vab0); exact rfl)
      | ((with_reducible apply Vq.vab1); exact rfl)
      | ((with_reducible apply Vq.vabr); exact rfl)
      | ((with_reducible apply Vq.vabx); (· decide); exact rfl)
      | dsimp only [Vq.afterSeq])
    dsimp only [afterSeq]
    (with_reducible apply Vq.vseq)
    · (with_reducible apply vdraw)
      case hr => exact rfl
      apply runDraw_cons
      exact rfl
      exact rfl
      exact rfl
      (try simp only [St.setS, St.slot, St.setO, St.obj, List.set_cons_succ, List.set_cons_zero, List.getD_cons_succ, List.getD_cons_zero, V.withLeaves, List.headD_cons, V.borrow, freeze1, borrows, borrow1, V.leaves, V.nextg, List.length_cons, List.length_nil, Nat.reduceAdd, Nat.reduceSub, layTup, obj1, splice, List.take_succ_cons, List.take_zero, List.drop_succ_cons, List.drop_zero, List.cons_append, List.nil_append, List.append_nil, Bool.false_eq_true, if_true, if_false, Bool.not_true, Bool.not_false])
      apply runDraw_cons
      exact rfl
      exact rfl
      exact rfl
      (try simp only [St.setS, St.slot, St.setO, St.obj, List.set_cons_succ, List.set_cons_zero, List.getD_cons_succ, List.getD_cons_zero, V.withLeaves, List.headD_cons, V.borrow, freeze1, borrows, borrow1, V.leaves, V.nextg, List.length_cons, List.length_nil, Nat.reduceAdd, Nat.reduceSub, layTup, obj1, splice, List.take_succ_cons, List.take_zero, List.drop_succ_cons, List.drop_zero, List.cons_append, List.nil_append, List.append_nil, Bool.false_eq_true, if_true, if_false, Bool.not_true, Bool.not_false])
      apply runDraw_cons
      · apply vcallA_foot (rs := [.slot 13]) rfl (fun _ => rfl) rfl (h35 a m ha.1 ha.2 (by omega)) (by simp [V.apart, V.leaves]; exact dgs_noslice [a])
        exact rfl
      · exact rfl
      · apply vcallA rfl (fun _ => rfl) rfl (h35 a m ha.1 ha.2 (by omega)) (by simp [V.apart, V.leaves]; exact dgs_noslice [a])
        exact rfl
      (try simp only [St.setS, St.slot, St.setO, St.obj, List.set_cons_succ, List.set_cons_zero, List.getD_cons_succ, List.getD_cons_zero, V.withLeaves, List.headD_cons, V.borrow, freeze1, borrows, borrow1, V.leaves, V.nextg, List.length_cons, List.length_nil, Nat.reduceAdd, Nat.reduceSub, layTup, obj1, splice, List.take_succ_cons, List.take_zero, List.drop_succ_cons, List.drop_zero, List.cons_append, List.nil_append, List.append_nil, Bool.false_eq_true, if_true, if_false, Bool.not_true, Bool.not_false])
      apply runDraw_cons
      · apply vtext_foot rfl rfl (textV_dgs a)
        exact rfl
      · exact rfl
      · apply vtext rfl rfl (textV_dgs a)
        exact rfl
      (try simp only [St.setS, St.slot, St.setO, St.obj, List.set_cons_succ, List.set_cons_zero, List.getD_cons_succ, List.getD_cons_zero, V.withLeaves, List.headD_cons, V.borrow, freeze1, borrows, borrow1, V.leaves, V.nextg, List.length_cons, List.length_nil, Nat.reduceAdd, Nat.reduceSub, layTup, obj1, splice, List.take_succ_cons, List.take_zero, List.drop_succ_cons, List.drop_zero, List.cons_append, List.nil_append, List.append_nil, Bool.false_eq_true, if_true, if_false, Bool.not_true, Bool.not_false])
      apply runDraw_cons
      exact rfl
      exact rfl
      exact rfl
      (try simp only [St.setS, St.slot, St.setO, St.obj, List.set_cons_succ, List.set_cons_zero, List.getD_cons_succ, List.getD_cons_zero, V.withLeaves, List.headD_cons, V.borrow, freeze1, borrows, borrow1, V.leaves, V.nextg, List.length_cons, List.length_nil, Nat.reduceAdd, Nat.reduceSub, layTup, obj1, splice, List.take_succ_cons, List.take_zero, List.drop_succ_cons, List.drop_zero, List.cons_append, List.nil_append, List.append_nil, Bool.false_eq_true, if_true, if_false, Bool.not_true, Bool.not_false])
      apply runDraw_cons
      exact rfl
      exact rfl
      exact rfl
      (try simp only [St.setS, St.slot, St.setO, St.obj, List.set_cons_succ, List.set_cons_zero, List.getD_cons_succ, List.getD_cons_zero, V.withLeaves, List.headD_cons, V.borrow, freeze1, borrows, borrow1, V.leaves, V.nextg, List.length_cons, List.length_nil, Nat.reduceAdd, Nat.reduceSub, layTup, obj1, splice, List.take_succ_cons, List.take_zero, List.drop_succ_cons, List.drop_zero, List.cons_append, List.nil_append, List.append_nil, Bool.false_eq_true, if_true, if_false, Bool.not_true, Bool.not_false])
      apply runDraw_cons
      · apply vcallA_foot (rs := [.slot 17]) rfl (fun _ => rfl) rfl (h35 b m hb.1 hb.2 (by omega)) (by simp [V.apart, V.leaves]; exact dgs_noslice [b])
        exact rfl
      · exact rfl
      · apply vcallA rfl (fun _ => rfl) rfl (h35 b m hb.1 hb.2 (by omega)) (by simp [V.apart, V.leaves]; exact dgs_noslice [b])
        exact rfl
      (try simp only [St.setS, St.slot, St.setO, St.obj, List.set_cons_succ, List.set_cons_zero, List.getD_cons_succ, List.getD_cons_zero, V.withLeaves, List.headD_cons, V.borrow, freeze1, borrows, borrow1, V.leaves, V.nextg, List.length_cons, List.length_nil, Nat.reduceAdd, Nat.reduceSub, layTup, obj1, splice, List.take_succ_cons, List.take_zero, List.drop_succ_cons, List.drop_zero, List.cons_append, List.nil_append, List.append_nil, Bool.false_eq_true, if_true, if_false, Bool.not_true, Bool.not_false])
      apply runDraw_cons
      · apply vtext_foot rfl rfl (textV_dgs b)
        exact rfl
      · exact rfl
      · apply vtext rfl rfl (textV_dgs b)
        exact rfl
      (try simp only [St.setS, St.slot, St.setO, St.obj, List.set_cons_succ, List.set_cons_zero, List.getD_cons_succ, List.getD_cons_zero, V.withLeaves, List.headD_cons, V.borrow, freeze1, borrows, borrow1, V.leaves, V.nextg, List.length_cons, List.length_nil, Nat.reduceAdd, Nat.reduceSub, layTup, obj1, splice, List.take_succ_cons, List.take_zero, List.drop_succ_cons, List.drop_zero, List.cons_append, List.nil_append, List.append_nil, Bool.false_eq_true, if_true, if_false, Bool.not_true, Bool.not_false])
      apply runDraw_cons
      exact rfl
      exact rfl
      exact rfl
      (try simp only [St.setS, St.slot, St.setO, St.obj, List.set_cons_succ, List.set_cons_zero, List.getD_cons_succ, List.getD_cons_zero, V.withLeaves, List.headD_cons, V.borrow, freeze1, borrows, borrow1, V.leaves, V.nextg, List.length_cons, List.length_nil, Nat.reduceAdd, Nat.reduceSub, layTup, obj1, splice, List.take_succ_cons, List.take_zero, List.drop_succ_cons, List.drop_zero, List.cons_append, List.nil_append, List.append_nil, Bool.false_eq_true, if_true, if_false, Bool.not_true, Bool.not_false])
      apply runDraw_cons
      exact rfl
      exact rfl
      exact rfl
      (try simp only [St.setS, St.slot, St.setO, St.obj, List.set_cons_succ, List.set_cons_zero, List.getD_cons_succ, List.getD_cons_zero, V.withLeaves, List.headD_cons, V.borrow, freeze1, borrows, borrow1, V.leaves, V.nextg, List.length_cons, List.length_nil, Nat.reduceAdd, Nat.reduceSub, layTup, obj1, splice, List.take_succ_cons, List.take_zero, List.drop_succ_cons, List.drop_zero, List.cons_append, List.nil_append, List.append_nil, Bool.false_eq_true, if_true, if_false, Bool.not_true, Bool.not_false])
      exact runDraw_nil
    dsimp only [afterSeq]
    (try simp only [St.setS, St.slot, St.setO, St.obj, List.set_cons_succ, List.set_cons_zero, List.getD_cons_succ, List.getD_cons_zero, V.withLeaves, List.headD_cons, V.borrow, freeze1, borrows, borrow1, V.leaves, V.nextg, List.length_cons, List.length_nil, Nat.reduceAdd, Nat.reduceSub, layTup, obj1, splice, List.take_succ_cons, List.take_zero, List.drop_succ_cons, List.drop_zero, List.cons_append, List.nil_append, List.append_nil, Bool.false_eq_true, if_true, if_false, Bool.not_true, Bool.not_false])
    (with_reducible apply Vq.vseq)
    · repeat' (first
      | with_reducible exact Vq.runOps_nil
      | ((with_reducible apply Vq.runOps_cons); exact rfl; (try simp only [St.setS, St.slot, St.setO, St.obj, List.set_cons_succ, List.set_cons_zero, List.getD_cons_succ, List.getD_cons_zero, V.withLeaves, List.headD_cons, V.borrow, freeze1, borrows, borrow1, V.leaves, V.nextg, List.length_cons, List.length_nil, Nat.reduceAdd, Nat.reduceSub, layTup, obj1, splice, List.take_succ_cons, List.take_zero, List.drop_succ_cons, List.drop_zero, List.cons_append, List.nil_append, List.append_nil, Bool.false_eq_true, if_true, if_false, Bool.not_true, Bool.not_false]))
      | with_reducible exact Vq.runDraw_nil
      | ((with_reducible apply Vq.runDraw_cons); exact rfl; exact rfl; exact rfl; (try simp only [St.setS, St.slot, St.setO, St.obj, List.set_cons_succ, List.set_cons_zero, List.getD_cons_succ, List.getD_cons_zero, V.withLeaves, List.headD_cons, V.borrow, freeze1, borrows, borrow1, V.leaves, V.nextg, List.length_cons, List.length_nil, Nat.reduceAdd, Nat.reduceSub, layTup, obj1, splice, List.take_succ_cons, List.take_zero, List.drop_succ_cons, List.drop_zero, List.cons_append, List.nil_append, List.append_nil, Bool.false_eq_true, if_true, if_false, Bool.not_true, Bool.not_false]))
      | ((with_reducible apply Vq.vret); exact rfl)
      | ((with_reducible apply Vq.vskip); exact rfl)
      | ((with_reducible apply Vq.vexit); exact rfl)
      | ((with_reducible apply Vq.vregion); case hr => exact rfl)
      | ((with_reducible apply Vq.vdraw); case hr => exact rfl)
      | with_reducible apply Vq.vseq
      | with_reducible apply Vq.vblock
      | ((with_reducible apply Vq.vcond); exact rfl; dsimp only [Vq.pickC])
      | (dsimp only [Vq.afterSeq]; done)
      | ((with_reducible apply Vq.vab0); exact rfl)
      | ((with_reducible apply Vq.vab1); exact rfl)
      | ((with_reducible apply Vq.vabr); exact rfl)
      | ((with_reducible apply Vq.vabx); (· decide); exact rfl)
      | dsimp only [Vq.afterSeq])
    dsimp only [afterSeq]
    (with_reducible apply Vq.vseq)
    · (with_reducible apply Vq.vseq)
      · repeat' (first
      | with_reducible exact Vq.runOps_nil
      | ((with_reducible apply Vq.runOps_cons); exact rfl; (try simp only [St.setS, St.slot, St.setO, St.obj, List.set_cons_succ, List.set_cons_zero, List.getD_cons_succ, List.getD_cons_zero, V.withLeaves, List.headD_cons, V.borrow, freeze1, borrows, borrow1, V.leaves, V.nextg, List.length_cons, List.length_nil, Nat.reduceAdd, Nat.reduceSub, layTup, obj1, splice, List.take_succ_cons, List.take_zero, List.drop_succ_cons, List.drop_zero, List.cons_append, List.nil_append, List.append_nil, Bool.false_eq_true, if_true, if_false, Bool.not_true, Bool.not_false]))
      | with_reducible exact Vq.runDraw_nil
      | ((with_reducible apply Vq.runDraw_cons); exact rfl; exact rfl; exact rfl; (try simp only [St.setS, St.slot, St.setO, St.obj, List.set_cons_succ, List.set_cons_zero, List.getD_cons_succ, List.getD_cons_zero, V.withLeaves, List.headD_cons, V.borrow, freeze1, borrows, borrow1, V.leaves, V.nextg, List.length_cons, List.length_nil, Nat.reduceAdd, Nat.reduceSub, layTup, obj1, splice, List.take_succ_cons, List.take_zero, List.drop_succ_cons, List.drop_zero, List.cons_append, List.nil_append, List.append_nil, Bool.false_eq_true, if_true, if_false, Bool.not_true, Bool.not_false]))
      | ((with_reducible apply Vq.vret); exact rfl)
      | ((with_reducible apply Vq.vskip); exact rfl)
      | ((with_reducible apply Vq.vexit); exact rfl)
      | ((with_reducible apply Vq.vregion); case hr => exact rfl)
      | ((with_reducible apply Vq.vdraw); case hr => exact rfl)
      | with_reducible apply Vq.vseq
      | with_reducible apply Vq.vblock
      | ((with_reducible apply Vq.vcond); exact rfl; dsimp only [Vq.pickC])
      | (dsimp only [Vq.afterSeq]; done)
      | ((with_reducible apply Vq.vab0); exact rfl)
      | ((with_reducible apply Vq.vab1); exact rfl)
      | ((with_reducible apply Vq.vabr); exact rfl)
      | ((with_reducible apply Vq.vabx); (· decide); exact rfl)
      | dsimp only [Vq.afterSeq])
      dsimp only [afterSeq]
      (with_reducible apply vblock)
      · exact loop10 G a b (dgB a) (dgB b) 9 m 1 a _ ha.1 (by omega) ha.2 (by omega) rfl
      · apply vabkx (τ := mid10 a b (dgB a) (dgB b) (szl 9 1 a).1) rfl
        exact rfl
    dsimp only [afterSeq]
    exact he1
  · exact .inr rfl
  · exact he2
end S3
end Go.Vq

namespace Go.Vq
namespace S4
open Go S2 S3
/-- A number's bytes as numbers. -/
def enc : Nat → Nat → List Nat
  | 0, N => [N % 256]
  | k + 1, N => if 128 ≤ N then (128 + N % 128) :: enc k (N / 128) else [N]
theorem orBit : ∀ x : BitVec 8, (x ||| BitVec.ofInt 8 128).toNat = 128 + x.toNat % 128 := by decide
theorem wrap8 (n : Int) : IntKind.u8.wrap n = n % 256 := by
  simp only [IntKind.wrap, IntKind.bits, IntKind.signed]; simp
theorem orByte (N : Nat) : (UInt8.ofNat (IntKind.u8.wrap ((BitVec.ofInt 8 (IntKind.u8.wrap (N : Int))) ||| (BitVec.ofInt 8 128)).toNat).toNat).toNat = 128 + N % 128 := by
  rw [orBit, wrap8, wrap8]
  have h : (BitVec.ofInt 8 ((N : Int) % 256)).toNat = N % 256 := by
    rw [BitVec.toNat_ofInt]
    have : ((N : Int) % 256 % ((2 ^ 8 : Nat) : Int)) = ((N % 256 : Nat) : Int) := by
      simp
    rw [this]; rfl
  rw [h]
  have h2 : N % 256 % 128 = N % 128 := by omega
  rw [h2, UInt8.toNat_ofNat']
  omega
theorem lastByte (N : Nat) : (UInt8.ofNat (IntKind.u8.wrap (N : Int)).toNat).toNat = N % 256 := by
  rw [wrap8, UInt8.toNat_ofNat']
  omega
theorem enc_bytes : ∀ (k N : Nat), (pb k (N : Int) ++ [UInt8.ofNat (IntKind.u8.wrap (lst k (N : Int))).toNat]).map UInt8.toNat = enc k N
  | 0, N => by simp only [pb, lst, enc, List.nil_append, List.map_cons, List.map_nil, lastByte]
  | k + 1, N => by
    have hd : ((N : Int).fdiv (2 ^ 7)) = ((N / 128 : Nat) : Int) := by rw [Int.fdiv_eq_ediv_of_nonneg _ (by decide)]; rfl
    unfold pb lst enc
    by_cases h : 128 ≤ N
    · have h' : (N : Int) ≥ 128 := by omega
      rw [if_pos h', if_pos h', if_pos h, hd, List.cons_append, List.map_cons, orByte, enc_bytes k]
    · have h' : ¬ (N : Int) ≥ 128 := by omega
      rw [if_neg h', if_neg h', if_neg h, List.nil_append, List.map_cons, List.map_nil, lastByte]
      rw [Nat.mod_eq_of_lt (by omega)]
theorem szl_enc : ∀ (k N : Nat) (c : Int), N < 128 ^ (k + 1) → N < 18446744073709551616 → 0 ≤ c → c + k < 1000 → (szl k c (N : Int)).1 = c + (enc k N).length - 1
  | 0, N, c, h, _, _, _ => by simp [szl, enc]
  | k + 1, N, c, h, h2, hc, hk => by
    unfold szl enc
    by_cases h1 : 128 ≤ N
    · have h' : (N : Int) ≥ 128 := by omega
      have e : IntKind.u64.wrap ((N : Int).tdiv 128) = ((N / 128 : Nat) : Int) := by
        rw [Int.tdiv_eq_ediv_of_nonneg (by omega)]
        simp only [IntKind.wrap, IntKind.bits, IntKind.signed]
        simp
        omega
      have e2 : IntKind.i64.wrap (c + 1) = c + 1 := by
        simp only [IntKind.wrap, IntKind.bits, IntKind.signed]; simp; omega
      rw [if_pos h', if_pos h1, e, e2, szl_enc k (N / 128) (c + 1) (by rw [Nat.pow_succ] at h; omega) (by omega) (by omega) (by omega), List.length_cons]
      omega
    · have h' : ¬ (N : Int) ≥ 128 := by omega
      rw [if_neg h', if_neg h1]; simp
theorem enc_prefix : ∀ (k j A B : Nat), A < 128 ^ (k + 1) → B < 128 ^ (j + 1) → enc k A <+: enc j B → A = B
  | 0, 0, A, B, hA, hB, h => by
    simp only [enc] at h
    have := List.IsPrefix.eq_of_length h rfl
    simp at this; omega
  | 0, j + 1, A, B, hA, hB, h => by
    simp only [enc] at h
    split at h
    · obtain ⟨t, ht⟩ := h
      simp at ht; omega
    · have := List.IsPrefix.eq_of_length h rfl
      simp at this; omega
  | k + 1, 0, A, B, hA, hB, h => by
    simp only [enc] at h
    split at h
    · obtain ⟨t, ht⟩ := h
      simp at ht; omega
    · have := List.IsPrefix.eq_of_length h rfl
      simp at this; omega
  | k + 1, j + 1, A, B, hA, hB, h => by
    simp only [enc] at h
    split at h <;> split at h
    · obtain ⟨h1, h2⟩ := List.cons_prefix_cons.1 h
      have := enc_prefix k j (A / 128) (B / 128) (by rw [Nat.pow_succ] at hA; omega) (by rw [Nat.pow_succ] at hB; omega) h2
      omega
    · obtain ⟨t, ht⟩ := h
      simp at ht; omega
    · obtain ⟨t, ht⟩ := h
      simp at ht; omega
    · have := List.IsPrefix.eq_of_length h rfl
      simp at this; omega
theorem map_inj {l m : List UInt8} (h : l.map UInt8.toNat = m.map UInt8.toNat) : l = m := (List.map_inj_right (fun _ _ h => UInt8.toNat_inj.1 h)).1 h
theorem dgB_enc (N : Nat) : (dgB (N : Int)).map UInt8.toNat = enc 9 N := enc_bytes 9 N
theorem plain (a b : Int) (ha : 0 ≤ a ∧ a < 18446744073709551616) (hb : 0 ≤ b ∧ b < 18446744073709551616) :
    ((((dgB a).length : Int) == (szl 9 1 a).1) = true) ∧ ((List.take (dgB a).length (dgB b) == dgB a) = (a == b)) ∧ ((dgB b).length < (dgB a).length → (a == b) = false) := by
  obtain ⟨A, rfl⟩ := Int.eq_ofNat_of_zero_le ha.1
  obtain ⟨B, rfl⟩ := Int.eq_ofNat_of_zero_le hb.1
  have hA : A < 128 ^ (9 + 1) := by omega
  have hB : B < 128 ^ (9 + 1) := by omega
  have hl : (dgB (A : Int)).length = (enc 9 A).length := by rw [← dgB_enc, List.length_map]
  refine ⟨?_, ?_, fun h => ?_⟩
  · rw [szl_enc 9 A 1 hA (by omega) (by omega) (by omega), hl]
    simp; omega
  · by_cases e : A = B
    · subst e; simp
    · have h1 : ((A : Int) == (B : Int)) = false := by simp; omega
      rw [h1, beq_eq_false_iff_ne]
      intro h
      refine e (enc_prefix 9 9 A B hA hB ?_)
      have : dgB (A : Int) <+: dgB (B : Int) := by rw [← h]; exact List.take_prefix _ _
      obtain ⟨t, ht⟩ := this
      refine ⟨t.map UInt8.toNat, ?_⟩
      rw [← dgB_enc, ← dgB_enc, ← List.map_append, ht]
  · cases he : ((A : Int) == (B : Int)) with
    | false => rfl
    | true =>
      have h0 : (A : Int) = (B : Int) := by simpa using he
      have : A = B := by omega
      subst this; omega
end S4
end Go.Vq

