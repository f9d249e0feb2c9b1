/- The V-level machine, run on values that are not known (no law of Go is stated here). -/
import Derived.Test.YtigbpkocmklbpaaB1
set_option linter.unusedVariables false
set_option linter.unusedSimpArgs false
namespace Go.Vq
namespace S5
open Go S2 S3 S4
set_option maxRecDepth 1000000
/-- packhorse/packhorselaw06.PacketWrites -/
def b11 : VCode :=
  .seq
    (.region [{ dst := (some 6), op := .assign (.val (.bool false)), guard := none, before := 0 }] false)
    (.seq
      (.seq
        (.region [{ dst := (some 13), op := .call true 31 0 [], guard := none, before := 0 },
          { dst := (some 14), op := .un (.not) (.tmp 13), guard := none, before := 1 }] false)
        (.cond (.tmp 14)
          (.seq
            (.region [{ dst := (some 6), op := .assign (.val (.bool false)), guard := none, before := 0 }] false)
            (.ret))
          (.skip)))
      (.seq
        (.seq
          (.region [{ dst := (some 15), op := .move (.tmp 0), guard := none, before := 0 },
            { dst := (some 16), op := .len (.slc 1) (.tmp 15), guard := none, before := 1 },
            { dst := (some 17), op := .bin (.gtr) (.tmp 16) (.val (.int .i64 200)), guard := none, before := 3 },
            { dst := (some 18), op := .move (.tmp 17), guard := none, before := 7 },
            { dst := (some 19), op := .move (.tmp 1), guard := (some (18, false)), before := 15 },
            { dst := (some 20), op := .len (.slc 1) (.tmp 19), guard := (some (18, false)), before := 31 },
            { dst := (some 21), op := .bin (.gtr) (.tmp 20) (.val (.int .i64 30)), guard := (some (18, false)), before := 63 },
            { dst := (some 22), op := .pick (.tmp 18) (.val (.bool true)) (.tmp 21), guard := none, before := 127 },
            { dst := (some 23), op := .move (.tmp 22), guard := none, before := 255 },
            { dst := (some 24), op := .move (.tmp 2), guard := (some (23, false)), before := 511 },
            { dst := (some 25), op := .len (.slc 1) (.tmp 24), guard := (some (23, false)), before := 1023 },
            { dst := (some 26), op := .bin (.gtr) (.tmp 25) (.val (.int .i64 30)), guard := (some (23, false)), before := 2047 },
            { dst := (some 27), op := .pick (.tmp 23) (.val (.bool true)) (.tmp 26), guard := none, before := 4095 }] false)
          (.cond (.tmp 27)
            (.seq
              (.region [{ dst := (some 6), op := .assign (.val (.bool true)), guard := none, before := 0 }] false)
              (.ret))
            (.skip)))
        (.seq
          (.region [{ dst := (some 28), op := .buildSlice 1 [] [], guard := none, before := 0 },
            { dst := (some 29), op := .move (.tmp 0), guard := none, before := 0 },
            { dst := (some 30), op := .append 1 1 (.tmp 28) (.tmp 29), guard := none, before := 3 },
            { dst := (some 7), op := .assign (.tmp 30), guard := none, before := 7 }] false)
          (.seq
            (.seq
              (.region [{ dst := (some 31), op := .move (.tmp 1), guard := none, before := 0 },
                { dst := (some 32), op := .len (.slc 1) (.tmp 31), guard := none, before := 1 },
                { dst := (some 33), op := .move (.val (.int .i64 0)), guard := none, before := 0 }] false)
              (.block 0 (some [0, 1, 2, 7]) (.loop (some [0, 1, 2, 7, 31, 32, 33])
                  (.seq
                    (.region [{ dst := (some 34), op := .bin (.lss) (.tmp 33) (.tmp 32), guard := none, before := 0 }] false)
                    (.seq
                      (.cond (.tmp 34)
                        (.skip)
                        (.exit 0))
                      (.seq
                        (.block 1 none (.seq
                            (.region [{ dst := (some 35), op := .indexAddr none 1 (.tmp 31) (.tmp 33), guard := none, before := 0 },
                              { dst := (some 36), op := .load false 1 (.tmp 35), guard := none, before := 1 },
                              { dst := (some 9), op := .assign (.tmp 36), guard := none, before := 3 }] false)
                            (.region [{ dst := (some 37), op := .move (.tmp 7), guard := none, before := 0 },
                              { dst := (some 38), op := .move (.tmp 9), guard := none, before := 0 },
                              { dst := (some 39), op := .call true 36 0 [(.tmp 38)], guard := none, before := 2 },
                              { dst := (some 40), op := .append 1 1 (.tmp 37) (.tmp 39), guard := none, before := 7 },
                              { dst := (some 7), op := .assign (.tmp 40), guard := none, before := 15 }] false)))
                        (.region [{ dst := (some 41), op := .bin (.add) (.tmp 33) (.val (.int .i64 1)), guard := none, before := 0 },
                          { dst := (some 33), op := .move (.tmp 41), guard := none, before := 1 }] false)))))))
            (.seq
              (.seq
                (.region [{ dst := (some 42), op := .move (.tmp 2), guard := none, before := 0 },
                  { dst := (some 43), op := .len (.slc 1) (.tmp 42), guard := none, before := 1 },
                  { dst := (some 44), op := .move (.val (.int .i64 0)), guard := none, before := 0 }] false)
                (.block 2 (some [0, 1, 2, 7]) (.loop (some [0, 1, 2, 7, 42, 43, 44])
                    (.seq
                      (.region [{ dst := (some 45), op := .bin (.lss) (.tmp 44) (.tmp 43), guard := none, before := 0 }] false)
                      (.seq
                        (.cond (.tmp 45)
                          (.skip)
                          (.exit 2))
                        (.seq
                          (.block 3 none (.seq
                              (.region [{ dst := (some 46), op := .indexAddr none 1 (.tmp 42) (.tmp 44), guard := none, before := 0 },
                                { dst := (some 47), op := .load false 1 (.tmp 46), guard := none, before := 1 },
                                { dst := (some 11), op := .assign (.tmp 47), guard := none, before := 3 }] false)
                              (.seq
                                (.seq
                                  (.region [{ dst := (some 48), op := .move (.tmp 11), guard := none, before := 0 },
                                    { dst := (some 49), op := .len (.str) (.tmp 48), guard := none, before := 1 },
                                    { dst := (some 50), op := .bin (.gtr) (.tmp 49) (.val (.int .i64 300)), guard := none, before := 3 }] false)
                                  (.cond (.tmp 50)
                                    (.seq
                                      (.region [{ dst := (some 6), op := .assign (.val (.bool true)), guard := none, before := 0 }] false)
                                      (.ret))
                                    (.skip)))
                                (.region [{ dst := (some 51), op := .move (.tmp 7), guard := none, before := 0 },
                                  { dst := (some 52), op := .move (.tmp 11), guard := none, before := 0 },
                                  { dst := (some 53), op := .call true 37 0 [(.tmp 52)], guard := none, before := 2 },
                                  { dst := (some 54), op := .append 1 1 (.tmp 51) (.tmp 53), guard := none, before := 7 },
                                  { dst := (some 7), op := .assign (.tmp 54), guard := none, before := 15 }] false))))
                          (.region [{ dst := (some 55), op := .bin (.add) (.tmp 44) (.val (.int .i64 1)), guard := none, before := 0 },
                            { dst := (some 44), op := .move (.tmp 55), guard := none, before := 1 }] false)))))))
              (.seq
                (.region [{ dst := (some 56), op := .move (.tmp 0), guard := none, before := 0 },
                  { dst := (some 57), op := .conv (.text) (.tmp 56), guard := none, before := 1 },
                  { dst := (some 12), op := .assign (.tmp 57), guard := none, before := 3 }] false)
                (.seq
                  (.region [{ dst := (some 58), op := .move (.tmp 0), guard := none, before := 0 },
                    { dst := (some 59), op := .move (.tmp 1), guard := none, before := 0 },
                    { dst := (some 60), op := .call true 35 0 [(.tmp 58), (.tmp 59)], guard := none, before := 3 },
                    { dst := (some 61), op := .move (.tmp 2), guard := none, before := 0 },
                    { dst := (some 62), op := .call true 38 0 [(.tmp 60), (.tmp 61)], guard := none, before := 15 },
                    { dst := (some 63), op := .conv (.text) (.tmp 62), guard := none, before := 31 },
                    { dst := (some 64), op := .move (.tmp 7), guard := none, before := 0 },
                    { dst := (some 65), op := .conv (.text) (.tmp 64), guard := none, before := 64 },
                    { dst := (some 66), op := .eq false (.num) (.tmp 63) (.tmp 65), guard := none, before := 255 },
                    { dst := (some 67), op := .move (.tmp 66), guard := none, before := 511 },
                    { dst := (some 68), op := .move (.tmp 0), guard := (some (67, true)), before := 1023 },
                    { dst := (some 69), op := .conv (.text) (.tmp 68), guard := (some (67, true)), before := 2047 },
                    { dst := (some 70), op := .move (.tmp 12), guard := (some (67, true)), before := 1023 },
                    { dst := (some 71), op := .eq false (.num) (.tmp 69) (.tmp 70), guard := (some (67, true)), before := 8191 },
                    { dst := (some 72), op := .pick (.tmp 67) (.tmp 71) (.val (.bool false)), guard := none, before := 16383 },
                    { dst := (some 6), op := .assign (.tmp 72), guard := none, before := 32767 }] true)
                  (.ret))))))))
def v11 : VFunc := { nparams := 3, ntmps := 73, nsites := 0, results := [.tmp 6], body := b11 }
/-- packhorse/packhorseref06.Number -/
def b36 : VCode :=
  .seq
    (.region [{ dst := (some 2), op := .assign (.val (.nilS 1)), guard := none, before := 0 }] false)
    (.seq
      (.region [{ dst := (some 4), op := .buildSlice 1 [] [], guard := none, before := 0 },
        { dst := (some 3), op := .assign (.tmp 4), guard := none, before := 1 }] false)
      (.seq
        (.block 0 (some [0, 3]) (.loop (some [0, 3])
            (.seq
              (.seq
                (.region [{ dst := (some 5), op := .move (.tmp 0), guard := none, before := 0 },
                  { dst := (some 6), op := .bin (.geq) (.tmp 5) (.val (.int .u64 128)), guard := none, before := 1 }] false)
                (.cond (.tmp 6)
                  (.skip)
                  (.exit 0)))
              (.block 1 none (.seq
                  (.region [{ dst := (some 7), op := .move (.tmp 3), guard := none, before := 0 },
                    { dst := (some 8), op := .move (.tmp 0), guard := none, before := 0 },
                    { dst := (some 9), op := .bin (.rem) (.tmp 8) (.val (.int .u64 128)), guard := none, before := 2 },
                    { dst := (some 10), op := .bin (.add) (.val (.int .u64 128)) (.tmp 9), guard := none, before := 6 },
                    { dst := (some 11), op := .conv (.int (.u8)) (.tmp 10), guard := none, before := 14 },
                    { dst := (some 12), op := .buildSlice 1 [(.int .u8 0)] [(0, (.tmp 11))], guard := none, before := 30 },
                    { dst := (some 13), op := .append 1 1 (.tmp 7) (.tmp 12), guard := none, before := 63 },
                    { dst := (some 3), op := .assign (.tmp 13), guard := none, before := 127 }] false)
                  (.region [{ dst := (some 14), op := .move (.tmp 0), guard := none, before := 0 },
                    { dst := (some 15), op := .bin (.quo) (.tmp 14) (.val (.int .u64 128)), guard := none, before := 1 },
                    { dst := (some 0), op := .assign (.tmp 15), guard := none, before := 3 }] false))))))
        (.seq
          (.region [{ dst := (some 16), op := .move (.tmp 3), guard := none, before := 0 },
            { dst := (some 17), op := .move (.tmp 0), guard := none, before := 0 },
            { dst := (some 18), op := .conv (.int (.u8)) (.tmp 17), guard := none, before := 2 },
            { dst := (some 19), op := .buildSlice 1 [(.int .u8 0)] [(0, (.tmp 18))], guard := none, before := 6 },
            { dst := (some 20), op := .append 1 1 (.tmp 16) (.tmp 19), guard := none, before := 15 },
            { dst := (some 2), op := .assign (.tmp 20), guard := none, before := 31 }] false)
          (.ret))))
def v36 : VFunc := { nparams := 1, ntmps := 21, nsites := 0, results := [.tmp 2], body := b36 }
/-- packhorse/packhorseref06.Text -/
def b37 : VCode :=
  .seq
    (.region [{ dst := (some 2), op := .assign (.val (.nilS 1)), guard := none, before := 0 }] false)
    (.seq
      (.region [{ dst := (some 3), op := .move (.tmp 0), guard := none, before := 0 },
        { dst := (some 4), op := .len (.str) (.tmp 3), guard := none, before := 1 },
        { dst := (some 5), op := .conv (.int (.u64)) (.tmp 4), guard := none, before := 3 },
        { dst := (some 6), op := .call true 36 0 [(.tmp 5)], guard := none, before := 7 },
        { dst := (some 7), op := .move (.tmp 0), guard := none, before := 0 },
        { dst := (some 8), op := .append 1 1 (.tmp 6) (.tmp 7), guard := none, before := 31 },
        { dst := (some 2), op := .assign (.tmp 8), guard := none, before := 63 }] false)
      (.ret))
def v37 : VFunc := { nparams := 1, ntmps := 9, nsites := 0, results := [.tmp 2], body := b37 }
/-- packhorse/packet.Text -/
def b38 : VCode :=
  .seq
    (.region [{ dst := (some 4), op := .assign (.val (.nilS 1)), guard := none, before := 0 }] false)
    (.seq
      (.region [{ dst := (some 8), op := .move (.tmp 0), guard := none, before := 0 },
        { dst := (some 9), op := .call true 53 0 [(.tmp 8)], guard := none, before := 1 },
        { dst := (some 5), op := .assign (.tmp 9), guard := none, before := 3 }] false)
      (.seq
        (.seq
          (.region [{ dst := (some 10), op := .move (.tmp 1), guard := none, before := 0 },
            { dst := (some 11), op := .len (.slc 1) (.tmp 10), guard := none, before := 1 },
            { dst := (some 12), op := .move (.val (.int .i64 0)), guard := none, before := 0 }] false)
          (.block 0 (some [5]) (.loop (some [1, 5, 10, 11, 12])
              (.seq
                (.region [{ dst := (some 13), op := .bin (.lss) (.tmp 12) (.tmp 11), guard := none, before := 0 }] false)
                (.seq
                  (.cond (.tmp 13)
                    (.skip)
                    (.exit 0))
                  (.seq
                    (.block 1 none (.seq
                        (.region [{ dst := (some 14), op := .indexAddr none 1 (.tmp 10) (.tmp 12), guard := none, before := 0 },
                          { dst := (some 15), op := .load false 1 (.tmp 14), guard := none, before := 1 },
                          { dst := (some 7), op := .assign (.tmp 15), guard := none, before := 3 }] false)
                        (.region [{ dst := (some 16), op := .move (.tmp 5), guard := none, before := 0 },
                          { dst := (some 17), op := .move (.tmp 7), guard := none, before := 0 },
                          { dst := (some 18), op := .len (.str) (.tmp 17), guard := none, before := 2 },
                          { dst := (some 19), op := .conv (.int (.u64)) (.tmp 18), guard := none, before := 6 },
                          { dst := (some 20), op := .buildSlice 1 [(.int .u64 0)] [(0, (.tmp 19))], guard := none, before := 14 },
                          { dst := (some 21), op := .call true 35 0 [(.tmp 16), (.tmp 20)], guard := none, before := 31 },
                          { dst := (some 22), op := .move (.tmp 7), guard := none, before := 0 },
                          { dst := (some 23), op := .append 1 1 (.tmp 21) (.tmp 22), guard := none, before := 127 },
                          { dst := (some 5), op := .assign (.tmp 23), guard := none, before := 255 }] false)))
                    (.region [{ dst := (some 24), op := .bin (.add) (.tmp 12) (.val (.int .i64 1)), guard := none, before := 0 },
                      { dst := (some 12), op := .move (.tmp 24), guard := none, before := 1 }] false)))))))
        (.seq
          (.region [{ dst := (some 25), op := .move (.tmp 5), guard := none, before := 0 },
            { dst := (some 4), op := .assign (.tmp 25), guard := none, before := 1 }] false)
          (.ret))))
def v38 : VFunc := { nparams := 2, ntmps := 26, nsites := 0, results := [.tmp 4], body := b38 }

variable (cal : Callee) (its : FuncId → Iter) (again : Nat → VCode → St → Option (Out × St))
/-! ### packhorseref06.Number -/
def body36 : VCode := (.seq (.seq (.region [{ dst := (some 5), op := .move (.tmp 0), guard := none, before := 0 }, { dst := (some 6), op := .bin (.geq) (.tmp 5) (.val (.int .u64 128)), guard := none, before := 1 }] false) (.cond (.tmp 6) (.skip) (.exit 0))) (.block 1 none (.seq (.region [{ dst := (some 7), op := .move (.tmp 3), guard := none, before := 0 }, { dst := (some 8), op := .move (.tmp 0), guard := none, before := 0 }, { dst := (some 9), op := .bin (.rem) (.tmp 8) (.val (.int .u64 128)), guard := none, before := 2 }, { dst := (some 10), op := .bin (.add) (.val (.int .u64 128)) (.tmp 9), guard := none, before := 6 }, { dst := (some 11), op := .conv (.int (.u8)) (.tmp 10), guard := none, before := 14 }, { dst := (some 12), op := .buildSlice 1 [(.int .u8 0)] [(0, (.tmp 11))], guard := none, before := 30 }, { dst := (some 13), op := .append 1 1 (.tmp 7) (.tmp 12), guard := none, before := 63 }, { dst := (some 3), op := .assign (.tmp 13), guard := none, before := 127 }] false) (.region [{ dst := (some 14), op := .move (.tmp 0), guard := none, before := 0 }, { dst := (some 15), op := .bin (.quo) (.tmp 14) (.val (.int .u64 128)), guard := none, before := 1 }, { dst := (some 0), op := .assign (.tmp 15), guard := none, before := 3 }] false))))
def st36 (n : Int) (out : List V) : St := { slots := (.int .u64 n :: .gone 0 :: .gone 0 :: .xsl 0 1 out :: .gone 0 :: .gone 0 :: .gone 0 :: .gone 0 :: .gone 0 :: .gone 0 :: .gone 0 :: .gone 0 :: .gone 0 :: .gone 0 :: .gone 0 :: .gone 0 :: .gone 0 :: .gone 0 :: .gone 0 :: .gone 0 :: .gone 0 :: []), objs := [] }
def ex36 (n : Int) (out : List V) : St := { slots := (.int .u64 n :: .gone 0 :: .gone 0 :: .xsl 0 1 out :: .gone 0 :: .int .u64 n :: .bool false :: .gone 0 :: .gone 0 :: .gone 0 :: .gone 0 :: .gone 0 :: .gone 0 :: .gone 0 :: .gone 0 :: .gone 0 :: .gone 0 :: .gone 0 :: .gone 0 :: .gone 0 :: .gone 0 :: []), objs := [] }
theorem round36 (n : Int) (out : List V) (h : decide (n ≥ 128) = true) (hb : out.length + 1 ≤ 140737488355328) :
    ∃ s, step cal its again 0 body36 (st36 n out) = some (.normal, s) ∧ rebase? (some [0, 3]) 0 s = st36 (IntKind.u64.wrap (n.tdiv 128)) (out ++ [.int .u8 (IntKind.u8.wrap (IntKind.u64.wrap (128 + n.tmod 128)))]) := by
  unfold body36 st36
  apply vround
  · repeat' (first
      | with_reducible exact Vq.runOps_nil
      | ((with_reducible apply Vq.runOps_cons); exact rfl; (try simp only [St.setS, St.slot, St.setO, St.obj, List.set_cons_succ, List.set_cons_zero, List.getD_cons_succ, List.getD_cons_zero, V.withLeaves, List.headD_cons, V.borrow, freeze1, borrows, borrow1, V.leaves, V.nextg, List.length_cons, List.length_nil, Nat.reduceAdd, Nat.reduceSub, layTup, obj1, splice, List.take_succ_cons, List.take_zero, List.drop_succ_cons, List.drop_zero, List.cons_append, List.nil_append, List.append_nil, Bool.false_eq_true, if_true, if_false, Bool.not_true, Bool.not_false, h]))
      | ((with_reducible apply Vq.runOps_cons); (apply Vq.run_asks; (· simp); (try simp only [List.take_length, List.drop_zero]); apply Vq.run_if trivial; unfold Vq.sHome; simp only [Vq.Prog.run]; apply Vq.run_asks; (· exact Nat.zero_lt_one); apply Vq.run_asks; (· exact ⟨trivial, by (simp; omega)⟩); exact rfl); (try simp only [St.setS, St.slot, St.setO, St.obj, List.set_cons_succ, List.set_cons_zero, List.getD_cons_succ, List.getD_cons_zero, V.withLeaves, List.headD_cons, V.borrow, freeze1, borrows, borrow1, V.leaves, V.nextg, List.length_cons, List.length_nil, Nat.reduceAdd, Nat.reduceSub, layTup, obj1, splice, List.take_succ_cons, List.take_zero, List.drop_succ_cons, List.drop_zero, List.cons_append, List.nil_append, List.append_nil, Bool.false_eq_true, if_true, if_false, Bool.not_true, Bool.not_false, h]); (try simp only [List.take_length, List.drop_zero]))
      | ((with_reducible apply Vq.runOps_cons); (apply Vq.run_asks; (· exact rfl); apply Vq.run_asks; (· exact ⟨rfl, by (simp; omega)⟩); exact rfl); (try simp only [St.setS, St.slot, St.setO, St.obj, List.set_cons_succ, List.set_cons_zero, List.getD_cons_succ, List.getD_cons_zero, V.withLeaves, List.headD_cons, V.borrow, freeze1, borrows, borrow1, V.leaves, V.nextg, List.length_cons, List.length_nil, Nat.reduceAdd, Nat.reduceSub, layTup, obj1, splice, List.take_succ_cons, List.take_zero, List.drop_succ_cons, List.drop_zero, List.cons_append, List.nil_append, List.append_nil, Bool.false_eq_true, if_true, if_false, Bool.not_true, Bool.not_false, h]))
      | with_reducible exact Vq.runDraw_nil
      | ((with_reducible apply Vq.runDraw_cons); exact rfl; exact rfl; exact rfl; (try simp only [St.setS, St.slot, St.setO, St.obj, List.set_cons_succ, List.set_cons_zero, List.getD_cons_succ, List.getD_cons_zero, V.withLeaves, List.headD_cons, V.borrow, freeze1, borrows, borrow1, V.leaves, V.nextg, List.length_cons, List.length_nil, Nat.reduceAdd, Nat.reduceSub, layTup, obj1, splice, List.take_succ_cons, List.take_zero, List.drop_succ_cons, List.drop_zero, List.cons_append, List.nil_append, List.append_nil, Bool.false_eq_true, if_true, if_false, Bool.not_true, Bool.not_false, h]))
      | ((with_reducible apply Vq.vret); exact rfl)
      | ((with_reducible apply Vq.vskip); exact rfl)
      | ((with_reducible apply Vq.vexit); exact rfl)
      | ((with_reducible apply Vq.vregion); case hr => exact rfl)
      | ((with_reducible apply Vq.vdraw); case hr => exact rfl)
      | with_reducible apply Vq.vseq
      | with_reducible apply Vq.vblock
      | ((with_reducible apply Vq.vcond); exact rfl; dsimp only [Vq.pickC])
      | (dsimp only [Vq.afterSeq]; done)
      | ((with_reducible apply Vq.vab0); exact rfl)
      | ((with_reducible apply Vq.vab1); exact rfl)
      | ((with_reducible apply Vq.vabr); exact rfl)
      | ((with_reducible apply Vq.vabx); (· decide); exact rfl)
      | dsimp only [Vq.afterSeq])
  · exact rfl
theorem out36 (n : Int) (out : List V) (h : decide (n ≥ 128) = false) : step cal its again 0 body36 (st36 n out) = some (.exit 0, ex36 n out) := by
  unfold body36 st36 ex36
  repeat' (first
      | with_reducible exact Vq.runOps_nil
      | ((with_reducible apply Vq.runOps_cons); exact rfl; (try simp only [St.setS, St.slot, St.setO, St.obj, List.set_cons_succ, List.set_cons_zero, List.getD_cons_succ, List.getD_cons_zero, V.withLeaves, List.headD_cons, V.borrow, freeze1, borrows, borrow1, V.leaves, V.nextg, List.length_cons, List.length_nil, Nat.reduceAdd, Nat.reduceSub, layTup, obj1, splice, List.take_succ_cons, List.take_zero, List.drop_succ_cons, List.drop_zero, List.cons_append, List.nil_append, List.append_nil, Bool.false_eq_true, if_true, if_false, Bool.not_true, Bool.not_false, h]))
      | with_reducible exact Vq.runDraw_nil
      | ((with_reducible apply Vq.runDraw_cons); exact rfl; exact rfl; exact rfl; (try simp only [St.setS, St.slot, St.setO, St.obj, List.set_cons_succ, List.set_cons_zero, List.getD_cons_succ, List.getD_cons_zero, V.withLeaves, List.headD_cons, V.borrow, freeze1, borrows, borrow1, V.leaves, V.nextg, List.length_cons, List.length_nil, Nat.reduceAdd, Nat.reduceSub, layTup, obj1, splice, List.take_succ_cons, List.take_zero, List.drop_succ_cons, List.drop_zero, List.cons_append, List.nil_append, List.append_nil, Bool.false_eq_true, if_true, if_false, Bool.not_true, Bool.not_false, h]))
      | ((with_reducible apply Vq.vret); exact rfl)
      | ((with_reducible apply Vq.vskip); exact rfl)
      | ((with_reducible apply Vq.vexit); exact rfl)
      | ((with_reducible apply Vq.vregion); case hr => exact rfl)
      | ((with_reducible apply Vq.vdraw); case hr => exact rfl)
      | with_reducible apply Vq.vseq
      | with_reducible apply Vq.vblock
      | ((with_reducible apply Vq.vcond); exact rfl; dsimp only [Vq.pickC])
      | (dsimp only [Vq.afterSeq]; done)
      | ((with_reducible apply Vq.vab0); exact rfl)
      | ((with_reducible apply Vq.vab1); exact rfl)
      | ((with_reducible apply Vq.vabr); exact rfl)
      | ((with_reducible apply Vq.vabx); (· decide); exact rfl)
      | dsimp only [Vq.afterSeq])
theorem orb_ref (n : Int) (h0 : 0 ≤ n) (hn : n < 18446744073709551616) : V.int .u8 (IntKind.u8.wrap (IntKind.u64.wrap (128 + n.tmod 128))) = orb n := by
  obtain ⟨N, rfl⟩ : ∃ N : Nat, n = N := ⟨n.toNat, by omega⟩
  have h1 : IntKind.u64.wrap (128 + (N : Int).tmod 128) = 128 + (N : Int) % 128 := by
    rw [Int.tmod_eq_emod_of_nonneg (by omega)]
    simp only [IntKind.wrap, IntKind.bits, IntKind.signed]
    simp
    omega
  rw [h1]
  unfold orb
  rw [orBit, wrap8, wrap8, wrap8]
  have h : (BitVec.ofInt 8 ((N : Int) % 256)).toNat = N % 256 := by
    rw [BitVec.toNat_ofInt]
    have : ((N : Int) % 256 % ((2 ^ 8 : Nat) : Int)) = ((N % 256 : Nat) : Int) := by
      simp
    rw [this]; rfl
  rw [h]
  have h2 : N % 256 % 128 = N % 128 := by omega
  rw [h2]
  congr 1
theorem loop36 (G : VProg) : ∀ (k m : Nat) (n : Int) (out : List V) (σ : St), 0 ≤ n → n < 128 ^ (k + 1) → n < 18446744073709551616 → out.length + k ≤ 140737488355328 → k ≤ m → rebase? (some [0, 3]) 0 σ = st36 n out →
    step (call G m) (itersOf G) (exec G m) 0 (.loop (some [0, 3]) body36) σ = some (.exit 0, ex36 (lst k n) (out ++ pre k n))
  | 0, m, n, out, σ, h0, hn, hn2, hb, hm, hs => by
    refine step_loop_out hs ?_ (by intro e; cases e)
    simp only [pre, lst, List.append_nil]
    exact out36 _ _ _ n out (by simpa using hn)
  | k + 1, m, n, out, σ, h0, hn, hn2, hb, hm, hs => by
    cases h : decide (n ≥ 128) with
    | false =>
      refine step_loop_out hs ?_ (by intro e; cases e)
      have h' : ¬ n ≥ 128 := by simpa using h
      simp only [pre, lst, if_neg h', List.append_nil]
      exact out36 _ _ _ n out h
    | true =>
      have h' : n ≥ 128 := by simpa using h
      cases m with
      | zero => omega
      | succ m =>
      obtain ⟨r, h1, h2⟩ := round36 (call G (m + 1)) (itersOf G) (exec G (m + 1)) n out h (by omega)
      rw [orb_ref n h0 hn2] at h2
      have e : IntKind.u64.wrap (n.tdiv 128) = n.fdiv (2 ^ 7) := by
        rw [Int.fdiv_eq_ediv_of_nonneg _ (by decide), Int.tdiv_eq_ediv_of_nonneg h0]
        simp only [IntKind.wrap, IntKind.bits, IntKind.signed]
        simp
        omega
      have e2 : n.fdiv (2 ^ 7) = n / 128 := by rw [Int.fdiv_eq_ediv_of_nonneg _ (by decide)]; rfl
      rw [e] at h2
      have h3 := loop36 G k m _ _ r (by rw [e2]; omega) (by rw [e2]; rw [Int.pow_succ] at hn; omega) (by rw [e2]; omega) (by simp; omega) (by omega) h2
      refine step_loop hs h1 ?_
      rw [exec_succ, h3]
      simp only [pre, lst, if_pos h', List.append_assoc, List.singleton_append]
theorem num36 (G : VProg) (hG : G 36 = some (.code v36)) (n : Int) (h0 : 0 ≤ n) (hn : n < 18446744073709551616) (m : Nat) (hm : 12 ≤ m) :
    call G m 36 [.int .u64 n] [] = some (.xsl 0 1 (dg n), []) := by
  obtain ⟨m, rfl⟩ : ∃ k, m = k + 1 := ⟨m - 1, by omega⟩
  apply call_code (o := .ret) hG ⟨rfl, by decide⟩
  · change step (call G m) (itersOf G) (exec G m) 0 b36 _ = _
    (try simp only [Vq.start, List.length_cons, List.length_nil, List.map_cons, List.map_nil, List.cons_append, List.nil_append, List.replicate_succ, List.replicate_zero, Nat.reduceAdd, Nat.reduceSub, v36])
    unfold b36
    (with_reducible apply Vq.vseq)
    · repeat' (first
      | with_reducible exact Vq.runOps_nil
      | ((with_reducible apply Vq.runOps_cons); exact rfl; (try simp only [St.setS, St.slot, St.setO, St.obj, List.set_cons_succ, List.set_cons_zero, List.getD_cons_succ, List.getD_cons_zero, V.withLeaves, List.headD_cons, V.borrow, freeze1, borrows, borrow1, V.leaves, V.nextg, List.length_cons, List.length_nil, Nat.reduceAdd, Nat.reduceSub, layTup, obj1, splice, List.take_succ_cons, List.take_zero, List.drop_succ_cons, List.drop_zero, List.cons_append, List.nil_append, List.append_nil, Bool.false_eq_true, if_true, if_false, Bool.not_true, Bool.not_false]))
      | with_reducible exact Vq.runDraw_nil
      | ((with_reducible apply Vq.runDraw_cons); exact rfl; exact rfl; exact rfl; (try simp only [St.setS, St.slot, St.setO, St.obj, List.set_cons_succ, List.set_cons_zero, List.getD_cons_succ, List.getD_cons_zero, V.withLeaves, List.headD_cons, V.borrow, freeze1, borrows, borrow1, V.leaves, V.nextg, List.length_cons, List.length_nil, Nat.reduceAdd, Nat.reduceSub, layTup, obj1, splice, List.take_succ_cons, List.take_zero, List.drop_succ_cons, List.drop_zero, List.cons_append, List.nil_append, List.append_nil, Bool.false_eq_true, if_true, if_false, Bool.not_true, Bool.not_false]))
      | ((with_reducible apply Vq.vret); exact rfl)
      | ((with_reducible apply Vq.vskip); exact rfl)
      | ((with_reducible apply Vq.vexit); exact rfl)
      | ((with_reducible apply Vq.vregion); case hr => exact rfl)
      | ((with_reducible apply Vq.vdraw); case hr => exact rfl)
      | with_reducible apply Vq.vseq
      | with_reducible apply Vq.vblock
      | ((with_reducible apply Vq.vcond); exact rfl; dsimp only [Vq.pickC])
      | (dsimp only [Vq.afterSeq]; done)
      | ((with_reducible apply Vq.vab0); exact rfl)
      | ((with_reducible apply Vq.vab1); exact rfl)
      | ((with_reducible apply Vq.vabr); exact rfl)
      | ((with_reducible apply Vq.vabx); (· decide); exact rfl)
      | dsimp only [Vq.afterSeq])
    dsimp only [afterSeq]
    (with_reducible apply Vq.vseq)
    · repeat' (first
      | with_reducible exact Vq.runOps_nil
      | ((with_reducible apply Vq.runOps_cons); exact rfl; (try simp only [St.setS, St.slot, St.setO, St.obj, List.set_cons_succ, List.set_cons_zero, List.getD_cons_succ, List.getD_cons_zero, V.withLeaves, List.headD_cons, V.borrow, freeze1, borrows, borrow1, V.leaves, V.nextg, List.length_cons, List.length_nil, Nat.reduceAdd, Nat.reduceSub, layTup, obj1, splice, List.take_succ_cons, List.take_zero, List.drop_succ_cons, List.drop_zero, List.cons_append, List.nil_append, List.append_nil, Bool.false_eq_true, if_true, if_false, Bool.not_true, Bool.not_false]))
      | with_reducible exact Vq.runDraw_nil
      | ((with_reducible apply Vq.runDraw_cons); exact rfl; exact rfl; exact rfl; (try simp only [St.setS, St.slot, St.setO, St.obj, List.set_cons_succ, List.set_cons_zero, List.getD_cons_succ, List.getD_cons_zero, V.withLeaves, List.headD_cons, V.borrow, freeze1, borrows, borrow1, V.leaves, V.nextg, List.length_cons, List.length_nil, Nat.reduceAdd, Nat.reduceSub, layTup, obj1, splice, List.take_succ_cons, List.take_zero, List.drop_succ_cons, List.drop_zero, List.cons_append, List.nil_append, List.append_nil, Bool.false_eq_true, if_true, if_false, Bool.not_true, Bool.not_false]))
      | ((with_reducible apply Vq.vret); exact rfl)
      | ((with_reducible apply Vq.vskip); exact rfl)
      | ((with_reducible apply Vq.vexit); exact rfl)
      | ((with_reducible apply Vq.vregion); case hr => exact rfl)
      | ((with_reducible apply Vq.vdraw); case hr => exact rfl)
      | with_reducible apply Vq.vseq
      | with_reducible apply Vq.vblock
      | ((with_reducible apply Vq.vcond); exact rfl; dsimp only [Vq.pickC])
      | (dsimp only [Vq.afterSeq]; done)
      | ((with_reducible apply Vq.vab0); exact rfl)
      | ((with_reducible apply Vq.vab1); exact rfl)
      | ((with_reducible apply Vq.vabr); exact rfl)
      | ((with_reducible apply Vq.vabx); (· decide); exact rfl)
      | dsimp only [Vq.afterSeq])
    dsimp only [afterSeq]
    (with_reducible apply Vq.vseq)
    · (with_reducible apply vblock)
      · exact loop36 G 9 m n [] _ h0 (by omega) hn (by simp) (by omega) rfl
      · apply vabkx (τ := st36 (lst 9 n) ([] ++ pre 9 n)) rfl
        exact rfl
    dsimp only [afterSeq]
    unfold st36
    repeat' (first
      | with_reducible exact Vq.runOps_nil
      | ((with_reducible apply Vq.runOps_cons); exact rfl; (try simp only [St.setS, St.slot, St.setO, St.obj, List.set_cons_succ, List.set_cons_zero, List.getD_cons_succ, List.getD_cons_zero, V.withLeaves, List.headD_cons, V.borrow, freeze1, borrows, borrow1, V.leaves, V.nextg, List.length_cons, List.length_nil, Nat.reduceAdd, Nat.reduceSub, layTup, obj1, splice, List.take_succ_cons, List.take_zero, List.drop_succ_cons, List.drop_zero, List.cons_append, List.nil_append, List.append_nil, Bool.false_eq_true, if_true, if_false, Bool.not_true, Bool.not_false]))
      | ((with_reducible apply Vq.runOps_cons); (apply Vq.run_asks; (· simp); (try simp only [List.take_length, List.drop_zero]); apply Vq.run_if trivial; unfold Vq.sHome; simp only [Vq.Prog.run]; apply Vq.run_asks; (· exact Nat.zero_lt_one); apply Vq.run_asks; (· exact ⟨trivial, by (have := pre_len 9 n; simp; omega)⟩); exact rfl); (try simp only [St.setS, St.slot, St.setO, St.obj, List.set_cons_succ, List.set_cons_zero, List.getD_cons_succ, List.getD_cons_zero, V.withLeaves, List.headD_cons, V.borrow, freeze1, borrows, borrow1, V.leaves, V.nextg, List.length_cons, List.length_nil, Nat.reduceAdd, Nat.reduceSub, layTup, obj1, splice, List.take_succ_cons, List.take_zero, List.drop_succ_cons, List.drop_zero, List.cons_append, List.nil_append, List.append_nil, Bool.false_eq_true, if_true, if_false, Bool.not_true, Bool.not_false]); (try simp only [List.take_length, List.drop_zero]))
      | ((with_reducible apply Vq.runOps_cons); (apply Vq.run_asks; (· exact rfl); apply Vq.run_asks; (· exact ⟨rfl, by (have := pre_len 9 n; simp; omega)⟩); exact rfl); (try simp only [St.setS, St.slot, St.setO, St.obj, List.set_cons_succ, List.set_cons_zero, List.getD_cons_succ, List.getD_cons_zero, V.withLeaves, List.headD_cons, V.borrow, freeze1, borrows, borrow1, V.leaves, V.nextg, List.length_cons, List.length_nil, Nat.reduceAdd, Nat.reduceSub, layTup, obj1, splice, List.take_succ_cons, List.take_zero, List.drop_succ_cons, List.drop_zero, List.cons_append, List.nil_append, List.append_nil, Bool.false_eq_true, if_true, if_false, Bool.not_true, Bool.not_false]))
      | with_reducible exact Vq.runDraw_nil
      | ((with_reducible apply Vq.runDraw_cons); exact rfl; exact rfl; exact rfl; (try simp only [St.setS, St.slot, St.setO, St.obj, List.set_cons_succ, List.set_cons_zero, List.getD_cons_succ, List.getD_cons_zero, V.withLeaves, List.headD_cons, V.borrow, freeze1, borrows, borrow1, V.leaves, V.nextg, List.length_cons, List.length_nil, Nat.reduceAdd, Nat.reduceSub, layTup, obj1, splice, List.take_succ_cons, List.take_zero, List.drop_succ_cons, List.drop_zero, List.cons_append, List.nil_append, List.append_nil, Bool.false_eq_true, if_true, if_false, Bool.not_true, Bool.not_false]))
      | ((with_reducible apply Vq.vret); exact rfl)
      | ((with_reducible apply Vq.vskip); exact rfl)
      | ((with_reducible apply Vq.vexit); exact rfl)
      | ((with_reducible apply Vq.vregion); case hr => exact rfl)
      | ((with_reducible apply Vq.vdraw); case hr => exact rfl)
      | with_reducible apply Vq.vseq
      | with_reducible apply Vq.vblock
      | ((with_reducible apply Vq.vcond); exact rfl; dsimp only [Vq.pickC])
      | (dsimp only [Vq.afterSeq]; done)
      | ((with_reducible apply Vq.vab0); exact rfl)
      | ((with_reducible apply Vq.vab1); exact rfl)
      | ((with_reducible apply Vq.vabr); exact rfl)
      | ((with_reducible apply Vq.vabx); (· decide); exact rfl)
      | dsimp only [Vq.afterSeq])
  · exact .inr rfl
  · first | exact rfl | (apply Vq.vfin; (· apply Vq.run_asks; (· simp); (try simp only [List.take_length, List.drop_zero]); (first | apply Vq.run_if trivial | apply Vq.run_if rfl); unfold Vq.sHome; simp only [Vq.Prog.run]; apply Vq.run_asks; (· exact Nat.zero_lt_one); exact rfl); (· exact rfl); (· exact rfl); (· decide); (· exact rfl); (· exact rfl))
/-! ### packhorseref06.Text -/
theorem noslice_dgs (ns : List Int) : ∀ x ∈ dgs ns, x.noslice = true := fun x hx => dgs_noslice ns x (by simpa using hx)
theorem noslice_dg (n : Int) : ∀ x ∈ dg n, x.noslice = true := fun x hx => noslice_dgs [n] x (by simpa [dgs] using hx)
def tx (s : List UInt8) : List V := dg (s.length : Int) ++ bytesV s
theorem wrap_u64 (n : Nat) (h : n < 18446744073709551616) : IntKind.u64.wrap (n : Int) = n := by
  simp only [IntKind.wrap, IntKind.bits, IntKind.signed]; simp; omega
theorem text37 (G : VProg) (hG : G 37 = some (.code v37)) (h36 : ∀ n m, 0 ≤ n → n < 18446744073709551616 → 12 ≤ m → call G m 36 [.int .u64 n] [] = some (.xsl 0 1 (dg n), [])) (s : List UInt8) (hs : s.length ≤ 1000) (m : Nat) (hm : 13 ≤ m) :
    call G m 37 [.str s] [] = some (.xsl 0 1 (tx s), []) := by
  obtain ⟨m, rfl⟩ : ∃ k, m = k + 1 := ⟨m - 1, by omega⟩
  have hw : IntKind.u64.wrap (s.length : Int) = s.length := wrap_u64 _ (by omega)
  have hns := noslice_dg s.length
  apply call_code (o := .ret) hG ⟨rfl, by decide⟩
  · change step (call G m) (itersOf G) (exec G m) 0 b37 _ = _
    (try simp only [Vq.start, List.length_cons, List.length_nil, List.map_cons, List.map_nil, List.cons_append, List.nil_append, List.replicate_succ, List.replicate_zero, Nat.reduceAdd, Nat.reduceSub, v37])
    unfold b37
    (with_reducible apply Vq.vseq)
    · repeat' (first
      | with_reducible exact Vq.runOps_nil
      | ((with_reducible apply Vq.runOps_cons); exact rfl; (try simp only [St.setS, St.slot, St.setO, St.obj, List.set_cons_succ, List.set_cons_zero, List.getD_cons_succ, List.getD_cons_zero, V.withLeaves, List.headD_cons, V.borrow, freeze1, borrows, borrow1, V.leaves, V.nextg, List.length_cons, List.length_nil, Nat.reduceAdd, Nat.reduceSub, layTup, obj1, splice, List.take_succ_cons, List.take_zero, List.drop_succ_cons, List.drop_zero, List.cons_append, List.nil_append, List.append_nil, Bool.false_eq_true, if_true, if_false, Bool.not_true, Bool.not_false]))
      | with_reducible exact Vq.runDraw_nil
      | ((with_reducible apply Vq.runDraw_cons); exact rfl; exact rfl; exact rfl; (try simp only [St.setS, St.slot, St.setO, St.obj, List.set_cons_succ, List.set_cons_zero, List.getD_cons_succ, List.getD_cons_zero, V.withLeaves, List.headD_cons, V.borrow, freeze1, borrows, borrow1, V.leaves, V.nextg, List.length_cons, List.length_nil, Nat.reduceAdd, Nat.reduceSub, layTup, obj1, splice, List.take_succ_cons, List.take_zero, List.drop_succ_cons, List.drop_zero, List.cons_append, List.nil_append, List.append_nil, Bool.false_eq_true, if_true, if_false, Bool.not_true, Bool.not_false]))
      | ((with_reducible apply Vq.vret); exact rfl)
      | ((with_reducible apply Vq.vskip); exact rfl)
      | ((with_reducible apply Vq.vexit); exact rfl)
      | ((with_reducible apply Vq.vregion); case hr => exact rfl)
      | ((with_reducible apply Vq.vdraw); case hr => exact rfl)
      | with_reducible apply Vq.vseq
      | with_reducible apply Vq.vblock
      | ((with_reducible apply Vq.vcond); exact rfl; dsimp only [Vq.pickC])
      | (dsimp only [Vq.afterSeq]; done)
      | ((with_reducible apply Vq.vab0); exact rfl)
      | ((with_reducible apply Vq.vab1); exact rfl)
      | ((with_reducible apply Vq.vabr); exact rfl)
      | ((with_reducible apply Vq.vabx); (· decide); exact rfl)
      | dsimp only [Vq.afterSeq])
    dsimp only [afterSeq]
    (with_reducible apply Vq.vseq)
    · (with_reducible apply Vq.vregion); case hr => exact rfl
      repeat' (first
      | with_reducible exact Vq.runOps_nil
      | ((with_reducible apply Vq.runOps_cons); exact rfl; (try simp only [St.setS, St.slot, St.setO, St.obj, List.set_cons_succ, List.set_cons_zero, List.getD_cons_succ, List.getD_cons_zero, V.withLeaves, List.headD_cons, V.borrow, freeze1, borrows, borrow1, V.leaves, V.nextg, List.length_cons, List.length_nil, Nat.reduceAdd, Nat.reduceSub, layTup, obj1, splice, List.take_succ_cons, List.take_zero, List.drop_succ_cons, List.drop_zero, List.cons_append, List.nil_append, List.append_nil, Bool.false_eq_true, if_true, if_false, Bool.not_true, Bool.not_false, hw]))
      | ((with_reducible apply Vq.runOps_cons); (apply Vq.vcallL; exact rfl; exact fun _ => rfl; exact fun _ => rfl; exact fun _ => rfl; exact fun _ => rfl; decide; exact rfl; exact rfl; (first | exact h36 _ _ (by omega) (by omega) (by omega)); exact rfl); (try simp only [St.setS, St.slot, St.setO, St.obj, List.set_cons_succ, List.set_cons_zero, List.getD_cons_succ, List.getD_cons_zero, V.withLeaves, List.headD_cons, V.borrow, freeze1, borrows, borrow1, V.leaves, V.nextg, List.length_cons, List.length_nil, Nat.reduceAdd, Nat.reduceSub, layTup, obj1, splice, List.take_succ_cons, List.take_zero, List.drop_succ_cons, List.drop_zero, List.cons_append, List.nil_append, List.append_nil, Bool.false_eq_true, if_true, if_false, Bool.not_true, Bool.not_false, hw]))
      | ((with_reducible apply Vq.runOps_cons); (apply Vq.vcallA; exact rfl; exact fun _ => rfl; exact rfl; (first | exact h36 _ _ (by omega) (by omega) (by omega)); (first | exact rfl | (simp [Vq.V.apart, Vq.V.leaves, Vq.V.noslice]; done) | (simp [Vq.V.apart, Vq.V.leaves, Vq.V.noslice]; assumption)); exact rfl); (try simp only [St.setS, St.slot, St.setO, St.obj, List.set_cons_succ, List.set_cons_zero, List.getD_cons_succ, List.getD_cons_zero, V.withLeaves, List.headD_cons, V.borrow, freeze1, borrows, borrow1, V.leaves, V.nextg, List.length_cons, List.length_nil, Nat.reduceAdd, Nat.reduceSub, layTup, obj1, splice, List.take_succ_cons, List.take_zero, List.drop_succ_cons, List.drop_zero, List.cons_append, List.nil_append, List.append_nil, Bool.false_eq_true, if_true, if_false, Bool.not_true, Bool.not_false, hw]))
      | ((with_reducible apply Vq.runOps_cons); (apply Vq.run_asks; (· simp); (try simp only [List.take_length, List.drop_zero]); apply Vq.run_if trivial; unfold Vq.sHome; simp only [Vq.Prog.run]; apply Vq.run_asks; (· exact Nat.zero_lt_one); apply Vq.run_asks; (· exact ⟨trivial, by (have := dg_len s.length; simp [bytesV]; omega)⟩); exact rfl); (try simp only [St.setS, St.slot, St.setO, St.obj, List.set_cons_succ, List.set_cons_zero, List.getD_cons_succ, List.getD_cons_zero, V.withLeaves, List.headD_cons, V.borrow, freeze1, borrows, borrow1, V.leaves, V.nextg, List.length_cons, List.length_nil, Nat.reduceAdd, Nat.reduceSub, layTup, obj1, splice, List.take_succ_cons, List.take_zero, List.drop_succ_cons, List.drop_zero, List.cons_append, List.nil_append, List.append_nil, Bool.false_eq_true, if_true, if_false, Bool.not_true, Bool.not_false, hw]); (try simp only [List.take_length, List.drop_zero]))
      | ((with_reducible apply Vq.runOps_cons); (apply Vq.run_asks; (· exact rfl); apply Vq.run_asks; (· exact ⟨rfl, by (have := dg_len s.length; simp [bytesV]; omega)⟩); exact rfl); (try simp only [St.setS, St.slot, St.setO, St.obj, List.set_cons_succ, List.set_cons_zero, List.getD_cons_succ, List.getD_cons_zero, V.withLeaves, List.headD_cons, V.borrow, freeze1, borrows, borrow1, V.leaves, V.nextg, List.length_cons, List.length_nil, Nat.reduceAdd, Nat.reduceSub, layTup, obj1, splice, List.take_succ_cons, List.take_zero, List.drop_succ_cons, List.drop_zero, List.cons_append, List.nil_append, List.append_nil, Bool.false_eq_true, if_true, if_false, Bool.not_true, Bool.not_false, hw]))
      | with_reducible exact Vq.runDraw_nil
      | ((with_reducible apply Vq.runDraw_cons); exact rfl; exact rfl; exact rfl; (try simp only [St.setS, St.slot, St.setO, St.obj, List.set_cons_succ, List.set_cons_zero, List.getD_cons_succ, List.getD_cons_zero, V.withLeaves, List.headD_cons, V.borrow, freeze1, borrows, borrow1, V.leaves, V.nextg, List.length_cons, List.length_nil, Nat.reduceAdd, Nat.reduceSub, layTup, obj1, splice, List.take_succ_cons, List.take_zero, List.drop_succ_cons, List.drop_zero, List.cons_append, List.nil_append, List.append_nil, Bool.false_eq_true, if_true, if_false, Bool.not_true, Bool.not_false, hw]))
      | ((with_reducible apply Vq.vret); exact rfl)
      | ((with_reducible apply Vq.vskip); exact rfl)
      | ((with_reducible apply Vq.vexit); exact rfl)
      | ((with_reducible apply Vq.vregion); case hr => exact rfl)
      | ((with_reducible apply Vq.vdraw); case hr => exact rfl)
      | with_reducible apply Vq.vseq
      | with_reducible apply Vq.vblock
      | ((with_reducible apply Vq.vcond); exact rfl; dsimp only [Vq.pickC])
      | (dsimp only [Vq.afterSeq]; done)
      | ((with_reducible apply Vq.vab0); exact rfl)
      | ((with_reducible apply Vq.vab1); exact rfl)
      | ((with_reducible apply Vq.vabr); exact rfl)
      | ((with_reducible apply Vq.vabx); (· decide); exact rfl)
      | dsimp only [Vq.afterSeq])
    dsimp only [afterSeq]
    repeat' (first
      | with_reducible exact Vq.runOps_nil
      | ((with_reducible apply Vq.runOps_cons); exact rfl; (try simp only [St.setS, St.slot, St.setO, St.obj, List.set_cons_succ, List.set_cons_zero, List.getD_cons_succ, List.getD_cons_zero, V.withLeaves, List.headD_cons, V.borrow, freeze1, borrows, borrow1, V.leaves, V.nextg, List.length_cons, List.length_nil, Nat.reduceAdd, Nat.reduceSub, layTup, obj1, splice, List.take_succ_cons, List.take_zero, List.drop_succ_cons, List.drop_zero, List.cons_append, List.nil_append, List.append_nil, Bool.false_eq_true, if_true, if_false, Bool.not_true, Bool.not_false]))
      | with_reducible exact Vq.runDraw_nil
      | ((with_reducible apply Vq.runDraw_cons); exact rfl; exact rfl; exact rfl; (try simp only [St.setS, St.slot, St.setO, St.obj, List.set_cons_succ, List.set_cons_zero, List.getD_cons_succ, List.getD_cons_zero, V.withLeaves, List.headD_cons, V.borrow, freeze1, borrows, borrow1, V.leaves, V.nextg, List.length_cons, List.length_nil, Nat.reduceAdd, Nat.reduceSub, layTup, obj1, splice, List.take_succ_cons, List.take_zero, List.drop_succ_cons, List.drop_zero, List.cons_append, List.nil_append, List.append_nil, Bool.false_eq_true, if_true, if_false, Bool.not_true, Bool.not_false]))
      | ((with_reducible apply Vq.vret); exact rfl)
      | ((with_reducible apply Vq.vskip); exact rfl)
      | ((with_reducible apply Vq.vexit); exact rfl)
      | ((with_reducible apply Vq.vregion); case hr => exact rfl)
      | ((with_reducible apply Vq.vdraw); case hr => exact rfl)
      | with_reducible apply Vq.vseq
      | with_reducible apply Vq.vblock
      | ((with_reducible apply Vq.vcond); exact rfl; dsimp only [Vq.pickC])
      | (dsimp only [Vq.afterSeq]; done)
      | ((with_reducible apply Vq.vab0); exact rfl)
      | ((with_reducible apply Vq.vab1); exact rfl)
      | ((with_reducible apply Vq.vabr); exact rfl)
      | ((with_reducible apply Vq.vabx); (· decide); exact rfl)
      | dsimp only [Vq.afterSeq])
  · exact .inr rfl
  · unfold tx
    first | exact rfl | (apply Vq.vfin; (· apply Vq.run_asks; (· simp); (try simp only [List.take_length, List.drop_zero]); (first | apply Vq.run_if trivial | apply Vq.run_if rfl); unfold Vq.sHome; simp only [Vq.Prog.run]; apply Vq.run_asks; (· exact Nat.zero_lt_one); exact rfl); (· exact rfl); (· exact rfl); (· decide); (· exact rfl); (· exact rfl))
/-! ### packet.Text -/
def body38 : VCode := (.seq (.region [{ dst := (some 13), op := .bin (.lss) (.tmp 12) (.tmp 11), guard := none, before := 0 }] false) (.seq (.cond (.tmp 13) (.skip) (.exit 0)) (.seq (.block 1 none (.seq (.region [{ dst := (some 14), op := .indexAddr none 1 (.tmp 10) (.tmp 12), guard := none, before := 0 }, { dst := (some 15), op := .load false 1 (.tmp 14), guard := none, before := 1 }, { dst := (some 7), op := .assign (.tmp 15), guard := none, before := 3 }] false) (.region [{ dst := (some 16), op := .move (.tmp 5), guard := none, before := 0 }, { dst := (some 17), op := .move (.tmp 7), guard := none, before := 0 }, { dst := (some 18), op := .len (.str) (.tmp 17), guard := none, before := 2 }, { dst := (some 19), op := .conv (.int (.u64)) (.tmp 18), guard := none, before := 6 }, { dst := (some 20), op := .buildSlice 1 [(.int .u64 0)] [(0, (.tmp 19))], guard := none, before := 14 }, { dst := (some 21), op := .call true 35 0 [(.tmp 16), (.tmp 20)], guard := none, before := 31 }, { dst := (some 22), op := .move (.tmp 7), guard := none, before := 0 }, { dst := (some 23), op := .append 1 1 (.tmp 21) (.tmp 22), guard := none, before := 127 }, { dst := (some 5), op := .assign (.tmp 23), guard := none, before := 255 }] false))) (.region [{ dst := (some 24), op := .bin (.add) (.tmp 12) (.val (.int .i64 1)), guard := none, before := 0 }, { dst := (some 12), op := .move (.tmp 24), guard := none, before := 1 }] false))))
def st38 (ss : List (List UInt8)) (out : List V) (i : Nat) : St :=
  { slots := (.gone 0 :: .isl 0 1 (ss.map V.str) :: .gone 0 :: .gone 0 :: .gone 0 :: .xsl 0 1 out :: .gone 0 :: .gone 0 :: .gone 0 :: .gone 0 :: .isl 0 1 (ss.map V.str) :: .int .i64 (ss.map V.str).length :: .int .i64 i :: .gone 0 :: .gone 0 :: .gone 0 :: .gone 0 :: .gone 0 :: .gone 0 :: .gone 0 :: .gone 0 :: .gone 0 :: .gone 0 :: .gone 0 :: .gone 0 :: .gone 0 :: []), objs := [] }
def ex38 (ss : List (List UInt8)) (out : List V) (i : Nat) : St :=
  { slots := (.gone 0 :: .isl 0 1 (ss.map V.str) :: .gone 0 :: .gone 0 :: .gone 0 :: .xsl 0 1 out :: .gone 0 :: .gone 0 :: .gone 0 :: .gone 0 :: .isl 0 1 (ss.map V.str) :: .int .i64 (ss.map V.str).length :: .int .i64 i :: .bool false :: .gone 0 :: .gone 0 :: .gone 0 :: .gone 0 :: .gone 0 :: .gone 0 :: .gone 0 :: .gone 0 :: .gone 0 :: .gone 0 :: .gone 0 :: .gone 0 :: []), objs := [] }
theorem wrap_i64 (n : Nat) (h : n < 9223372036854775808) : IntKind.i64.wrap (n : Int) = n := by
  simp only [IntKind.wrap, IntKind.bits, IntKind.signed]; simp; omega
theorem inc_i64 (i : Nat) (h : i < 9223372036854775807) : IntKind.i64.wrap ((i : Int) + 1) = ((i + 1 : Nat) : Int) := wrap_i64 (i + 1) (by omega)
theorem round38 (ss : List (List UInt8)) (out : List V) (i : Nat) (hi : i < ss.length) (hss : ss.length ≤ 1000) (hs : (ss[i]).length ≤ 1000) (hb : out.length + 1020 ≤ 140737488355328) (hno : ∀ x ∈ out, x.noslice = true)
    (h35 : cal 35 [.isl 0 1 out, .isl 0 1 [.int .u64 (ss[i]).length]] [] = some (.xsl 0 1 (out ++ dgs [((ss[i]).length : Int)]), [])) :
    ∃ s, step cal its again 0 body38 (st38 ss out i) = some (.normal, s) ∧ rebase? (some [1, 5, 10, 11, 12]) 0 s = st38 ss (out ++ tx ss[i]) (i + 1) := by
  have hx : (ss.map V.str)[((i : Int)).toNat]? = some (.str ss[i]) := by simp [hi]
  have hlt : decide ((i : Int) < ((ss.map V.str).length : Int)) = true := by simp; omega
  have hadd := inc_i64 i (by omega)
  have hw : IntKind.u64.wrap ((ss[i]).length : Int) = (ss[i]).length := wrap_u64 _ (by omega)
  have hns := noslice_dgs [((ss[i]).length : Int)]
  have hdl := dg_len ((ss[i]).length : Int)
  unfold body38 st38
  apply vround
  · (with_reducible apply Vq.vseq)
    · repeat' (first
      | with_reducible exact Vq.runOps_nil
      | ((with_reducible apply Vq.runOps_cons); exact rfl; (try simp only [St.setS, St.slot, St.setO, St.obj, List.set_cons_succ, List.set_cons_zero, List.getD_cons_succ, List.getD_cons_zero, V.withLeaves, List.headD_cons, V.borrow, freeze1, borrows, borrow1, V.leaves, V.nextg, List.length_cons, List.length_nil, Nat.reduceAdd, Nat.reduceSub, layTup, obj1, splice, List.take_succ_cons, List.take_zero, List.drop_succ_cons, List.drop_zero, List.cons_append, List.nil_append, List.append_nil, Bool.false_eq_true, if_true, if_false, Bool.not_true, Bool.not_false, hlt]))
      | with_reducible exact Vq.runDraw_nil
      | ((with_reducible apply Vq.runDraw_cons); exact rfl; exact rfl; exact rfl; (try simp only [St.setS, St.slot, St.setO, St.obj, List.set_cons_succ, List.set_cons_zero, List.getD_cons_succ, List.getD_cons_zero, V.withLeaves, List.headD_cons, V.borrow, freeze1, borrows, borrow1, V.leaves, V.nextg, List.length_cons, List.length_nil, Nat.reduceAdd, Nat.reduceSub, layTup, obj1, splice, List.take_succ_cons, List.take_zero, List.drop_succ_cons, List.drop_zero, List.cons_append, List.nil_append, List.append_nil, Bool.false_eq_true, if_true, if_false, Bool.not_true, Bool.not_false, hlt]))
      | ((with_reducible apply Vq.vret); exact rfl)
      | ((with_reducible apply Vq.vskip); exact rfl)
      | ((with_reducible apply Vq.vexit); exact rfl)
      | ((with_reducible apply Vq.vregion); case hr => exact rfl)
      | ((with_reducible apply Vq.vdraw); case hr => exact rfl)
      | with_reducible apply Vq.vseq
      | with_reducible apply Vq.vblock
      | ((with_reducible apply Vq.vcond); exact rfl; dsimp only [Vq.pickC])
      | (dsimp only [Vq.afterSeq]; done)
      | ((with_reducible apply Vq.vab0); exact rfl)
      | ((with_reducible apply Vq.vab1); exact rfl)
      | ((with_reducible apply Vq.vabr); exact rfl)
      | ((with_reducible apply Vq.vabx); (· decide); exact rfl)
      | dsimp only [Vq.afterSeq])
    dsimp only [afterSeq]
    (with_reducible apply Vq.vseq)
    · repeat' (first
      | with_reducible exact Vq.runOps_nil
      | ((with_reducible apply Vq.runOps_cons); exact rfl; (try simp only [St.setS, St.slot, St.setO, St.obj, List.set_cons_succ, List.set_cons_zero, List.getD_cons_succ, List.getD_cons_zero, V.withLeaves, List.headD_cons, V.borrow, freeze1, borrows, borrow1, V.leaves, V.nextg, List.length_cons, List.length_nil, Nat.reduceAdd, Nat.reduceSub, layTup, obj1, splice, List.take_succ_cons, List.take_zero, List.drop_succ_cons, List.drop_zero, List.cons_append, List.nil_append, List.append_nil, Bool.false_eq_true, if_true, if_false, Bool.not_true, Bool.not_false, hlt]))
      | with_reducible exact Vq.runDraw_nil
      | ((with_reducible apply Vq.runDraw_cons); exact rfl; exact rfl; exact rfl; (try simp only [St.setS, St.slot, St.setO, St.obj, List.set_cons_succ, List.set_cons_zero, List.getD_cons_succ, List.getD_cons_zero, V.withLeaves, List.headD_cons, V.borrow, freeze1, borrows, borrow1, V.leaves, V.nextg, List.length_cons, List.length_nil, Nat.reduceAdd, Nat.reduceSub, layTup, obj1, splice, List.take_succ_cons, List.take_zero, List.drop_succ_cons, List.drop_zero, List.cons_append, List.nil_append, List.append_nil, Bool.false_eq_true, if_true, if_false, Bool.not_true, Bool.not_false, hlt]))
      | ((with_reducible apply Vq.vret); exact rfl)
      | ((with_reducible apply Vq.vskip); exact rfl)
      | ((with_reducible apply Vq.vexit); exact rfl)
      | ((with_reducible apply Vq.vregion); case hr => exact rfl)
      | ((with_reducible apply Vq.vdraw); case hr => exact rfl)
      | with_reducible apply Vq.vseq
      | with_reducible apply Vq.vblock
      | ((with_reducible apply Vq.vcond); exact rfl; dsimp only [Vq.pickC])
      | (dsimp only [Vq.afterSeq]; done)
      | ((with_reducible apply Vq.vab0); exact rfl)
      | ((with_reducible apply Vq.vab1); exact rfl)
      | ((with_reducible apply Vq.vabr); exact rfl)
      | ((with_reducible apply Vq.vabx); (· decide); exact rfl)
      | dsimp only [Vq.afterSeq])
    dsimp only [afterSeq]
    (with_reducible apply Vq.vseq)
    · (with_reducible apply vblock)
      · (with_reducible apply Vq.vseq)
        · (with_reducible apply Vq.vregion); case hr => exact rfl
          (with_reducible apply Vq.runOps_cons)
          · apply vidx rfl rfl (.inl rfl) (by omega) hx
            exact rfl
          (try simp only [St.setS, St.slot, St.setO, St.obj, List.set_cons_succ, List.set_cons_zero, List.getD_cons_succ, List.getD_cons_zero, V.withLeaves, List.headD_cons, V.borrow, freeze1, borrows, borrow1, V.leaves, V.nextg, List.length_cons, List.length_nil, Nat.reduceAdd, Nat.reduceSub, layTup, obj1, splice, List.take_succ_cons, List.take_zero, List.drop_succ_cons, List.drop_zero, List.cons_append, List.nil_append, List.append_nil, Bool.false_eq_true, if_true, if_false, Bool.not_true, Bool.not_false])
          repeat' (first
      | with_reducible exact Vq.runOps_nil
      | ((with_reducible apply Vq.runOps_cons); exact rfl; (try simp only [St.setS, St.slot, St.setO, St.obj, List.set_cons_succ, List.set_cons_zero, List.getD_cons_succ, List.getD_cons_zero, V.withLeaves, List.headD_cons, V.borrow, freeze1, borrows, borrow1, V.leaves, V.nextg, List.length_cons, List.length_nil, Nat.reduceAdd, Nat.reduceSub, layTup, obj1, splice, List.take_succ_cons, List.take_zero, List.drop_succ_cons, List.drop_zero, List.cons_append, List.nil_append, List.append_nil, Bool.false_eq_true, if_true, if_false, Bool.not_true, Bool.not_false]))
      | with_reducible exact Vq.runDraw_nil
      | ((with_reducible apply Vq.runDraw_cons); exact rfl; exact rfl; exact rfl; (try simp only [St.setS, St.slot, St.setO, St.obj, List.set_cons_succ, List.set_cons_zero, List.getD_cons_succ, List.getD_cons_zero, V.withLeaves, List.headD_cons, V.borrow, freeze1, borrows, borrow1, V.leaves, V.nextg, List.length_cons, List.length_nil, Nat.reduceAdd, Nat.reduceSub, layTup, obj1, splice, List.take_succ_cons, List.take_zero, List.drop_succ_cons, List.drop_zero, List.cons_append, List.nil_append, List.append_nil, Bool.false_eq_true, if_true, if_false, Bool.not_true, Bool.not_false]))
      | ((with_reducible apply Vq.vret); exact rfl)
      | ((with_reducible apply Vq.vskip); exact rfl)
      | ((with_reducible apply Vq.vexit); exact rfl)
      | ((with_reducible apply Vq.vregion); case hr => exact rfl)
      | ((with_reducible apply Vq.vdraw); case hr => exact rfl)
      | with_reducible apply Vq.vseq
      | with_reducible apply Vq.vblock
      | ((with_reducible apply Vq.vcond); exact rfl; dsimp only [Vq.pickC])
      | (dsimp only [Vq.afterSeq]; done)
      | ((with_reducible apply Vq.vab0); exact rfl)
      | ((with_reducible apply Vq.vab1); exact rfl)
      | ((with_reducible apply Vq.vabr); exact rfl)
      | ((with_reducible apply Vq.vabx); (· decide); exact rfl)
      | dsimp only [Vq.afterSeq])
        dsimp only [afterSeq]
        (with_reducible apply Vq.vregion); case hr => exact rfl
        repeat' (first
      | with_reducible exact Vq.runOps_nil
      | ((with_reducible apply Vq.runOps_cons); exact rfl; (try simp only [St.setS, St.slot, St.setO, St.obj, List.set_cons_succ, List.set_cons_zero, List.getD_cons_succ, List.getD_cons_zero, V.withLeaves, List.headD_cons, V.borrow, freeze1, borrows, borrow1, V.leaves, V.nextg, List.length_cons, List.length_nil, Nat.reduceAdd, Nat.reduceSub, layTup, obj1, splice, List.take_succ_cons, List.take_zero, List.drop_succ_cons, List.drop_zero, List.cons_append, List.nil_append, List.append_nil, Bool.false_eq_true, if_true, if_false, Bool.not_true, Bool.not_false, hw]))
      | with_reducible exact Vq.runDraw_nil
      | ((with_reducible apply Vq.runDraw_cons); exact rfl; exact rfl; exact rfl; (try simp only [St.setS, St.slot, St.setO, St.obj, List.set_cons_succ, List.set_cons_zero, List.getD_cons_succ, List.getD_cons_zero, V.withLeaves, List.headD_cons, V.borrow, freeze1, borrows, borrow1, V.leaves, V.nextg, List.length_cons, List.length_nil, Nat.reduceAdd, Nat.reduceSub, layTup, obj1, splice, List.take_succ_cons, List.take_zero, List.drop_succ_cons, List.drop_zero, List.cons_append, List.nil_append, List.append_nil, Bool.false_eq_true, if_true, if_false, Bool.not_true, Bool.not_false, hw]))
      | ((with_reducible apply Vq.vret); exact rfl)
      | ((with_reducible apply Vq.vskip); exact rfl)
      | ((with_reducible apply Vq.vexit); exact rfl)
      | ((with_reducible apply Vq.vregion); case hr => exact rfl)
      | ((with_reducible apply Vq.vdraw); case hr => exact rfl)
      | with_reducible apply Vq.vseq
      | with_reducible apply Vq.vblock
      | ((with_reducible apply Vq.vcond); exact rfl; dsimp only [Vq.pickC])
      | (dsimp only [Vq.afterSeq]; done)
      | ((with_reducible apply Vq.vab0); exact rfl)
      | ((with_reducible apply Vq.vab1); exact rfl)
      | ((with_reducible apply Vq.vabr); exact rfl)
      | ((with_reducible apply Vq.vabx); (· decide); exact rfl)
      | dsimp only [Vq.afterSeq])
        (with_reducible apply Vq.runOps_cons)
        · apply vcallA (vs := [.isl 0 1 out, .isl 0 1 [.int .u64 (ss[i]).length]]) rfl (by intro k; simp [presArgs, presArg, gOpd, Prog.run, St.slot, V.leaves, press, pres1, gElems, gHome, St.obj, V.withLeaves]) rfl h35 (by
            simp [V.apart, V.leaves]
            exact ⟨hno, hns⟩)
          exact rfl
        (try simp only [St.setS, St.slot, St.setO, St.obj, List.set_cons_succ, List.set_cons_zero, List.getD_cons_succ, List.getD_cons_zero, V.withLeaves, List.headD_cons, V.borrow, freeze1, borrows, borrow1, V.leaves, V.nextg, List.length_cons, List.length_nil, Nat.reduceAdd, Nat.reduceSub, layTup, obj1, splice, List.take_succ_cons, List.take_zero, List.drop_succ_cons, List.drop_zero, List.cons_append, List.nil_append, List.append_nil, Bool.false_eq_true, if_true, if_false, Bool.not_true, Bool.not_false])
        repeat' (first
      | with_reducible exact Vq.runOps_nil
      | ((with_reducible apply Vq.runOps_cons); exact rfl; (try simp only [St.setS, St.slot, St.setO, St.obj, List.set_cons_succ, List.set_cons_zero, List.getD_cons_succ, List.getD_cons_zero, V.withLeaves, List.headD_cons, V.borrow, freeze1, borrows, borrow1, V.leaves, V.nextg, List.length_cons, List.length_nil, Nat.reduceAdd, Nat.reduceSub, layTup, obj1, splice, List.take_succ_cons, List.take_zero, List.drop_succ_cons, List.drop_zero, List.cons_append, List.nil_append, List.append_nil, Bool.false_eq_true, if_true, if_false, Bool.not_true, Bool.not_false]))
      | ((with_reducible apply Vq.runOps_cons); (apply Vq.run_asks; (· simp); (try simp only [List.take_length, List.drop_zero]); apply Vq.run_if trivial; unfold Vq.sHome; simp only [Vq.Prog.run]; apply Vq.run_asks; (· exact Nat.zero_lt_one); apply Vq.run_asks; (· exact ⟨trivial, by (simp [bytesV, dgs]; omega)⟩); exact rfl); (try simp only [St.setS, St.slot, St.setO, St.obj, List.set_cons_succ, List.set_cons_zero, List.getD_cons_succ, List.getD_cons_zero, V.withLeaves, List.headD_cons, V.borrow, freeze1, borrows, borrow1, V.leaves, V.nextg, List.length_cons, List.length_nil, Nat.reduceAdd, Nat.reduceSub, layTup, obj1, splice, List.take_succ_cons, List.take_zero, List.drop_succ_cons, List.drop_zero, List.cons_append, List.nil_append, List.append_nil, Bool.false_eq_true, if_true, if_false, Bool.not_true, Bool.not_false]); (try simp only [List.take_length, List.drop_zero]))
      | ((with_reducible apply Vq.runOps_cons); (apply Vq.run_asks; (· exact rfl); apply Vq.run_asks; (· exact ⟨rfl, by (simp [bytesV, dgs]; omega)⟩); exact rfl); (try simp only [St.setS, St.slot, St.setO, St.obj, List.set_cons_succ, List.set_cons_zero, List.getD_cons_succ, List.getD_cons_zero, V.withLeaves, List.headD_cons, V.borrow, freeze1, borrows, borrow1, V.leaves, V.nextg, List.length_cons, List.length_nil, Nat.reduceAdd, Nat.reduceSub, layTup, obj1, splice, List.take_succ_cons, List.take_zero, List.drop_succ_cons, List.drop_zero, List.cons_append, List.nil_append, List.append_nil, Bool.false_eq_true, if_true, if_false, Bool.not_true, Bool.not_false]))
      | with_reducible exact Vq.runDraw_nil
      | ((with_reducible apply Vq.runDraw_cons); exact rfl; exact rfl; exact rfl; (try simp only [St.setS, St.slot, St.setO, St.obj, List.set_cons_succ, List.set_cons_zero, List.getD_cons_succ, List.getD_cons_zero, V.withLeaves, List.headD_cons, V.borrow, freeze1, borrows, borrow1, V.leaves, V.nextg, List.length_cons, List.length_nil, Nat.reduceAdd, Nat.reduceSub, layTup, obj1, splice, List.take_succ_cons, List.take_zero, List.drop_succ_cons, List.drop_zero, List.cons_append, List.nil_append, List.append_nil, Bool.false_eq_true, if_true, if_false, Bool.not_true, Bool.not_false]))
      | ((with_reducible apply Vq.vret); exact rfl)
      | ((with_reducible apply Vq.vskip); exact rfl)
      | ((with_reducible apply Vq.vexit); exact rfl)
      | ((with_reducible apply Vq.vregion); case hr => exact rfl)
      | ((with_reducible apply Vq.vdraw); case hr => exact rfl)
      | with_reducible apply Vq.vseq
      | with_reducible apply Vq.vblock
      | ((with_reducible apply Vq.vcond); exact rfl; dsimp only [Vq.pickC])
      | (dsimp only [Vq.afterSeq]; done)
      | ((with_reducible apply Vq.vab0); exact rfl)
      | ((with_reducible apply Vq.vab1); exact rfl)
      | ((with_reducible apply Vq.vabr); exact rfl)
      | ((with_reducible apply Vq.vabx); (· decide); exact rfl)
      | dsimp only [Vq.afterSeq])
      repeat' (first
      | with_reducible exact Vq.runOps_nil
      | ((with_reducible apply Vq.runOps_cons); exact rfl; (try simp only [St.setS, St.slot, St.setO, St.obj, List.set_cons_succ, List.set_cons_zero, List.getD_cons_succ, List.getD_cons_zero, V.withLeaves, List.headD_cons, V.borrow, freeze1, borrows, borrow1, V.leaves, V.nextg, List.length_cons, List.length_nil, Nat.reduceAdd, Nat.reduceSub, layTup, obj1, splice, List.take_succ_cons, List.take_zero, List.drop_succ_cons, List.drop_zero, List.cons_append, List.nil_append, List.append_nil, Bool.false_eq_true, if_true, if_false, Bool.not_true, Bool.not_false]))
      | with_reducible exact Vq.runDraw_nil
      | ((with_reducible apply Vq.runDraw_cons); exact rfl; exact rfl; exact rfl; (try simp only [St.setS, St.slot, St.setO, St.obj, List.set_cons_succ, List.set_cons_zero, List.getD_cons_succ, List.getD_cons_zero, V.withLeaves, List.headD_cons, V.borrow, freeze1, borrows, borrow1, V.leaves, V.nextg, List.length_cons, List.length_nil, Nat.reduceAdd, Nat.reduceSub, layTup, obj1, splice, List.take_succ_cons, List.take_zero, List.drop_succ_cons, List.drop_zero, List.cons_append, List.nil_append, List.append_nil, Bool.false_eq_true, if_true, if_false, Bool.not_true, Bool.not_false]))
      | ((with_reducible apply Vq.vret); exact rfl)
      | ((with_reducible apply Vq.vskip); exact rfl)
      | ((with_reducible apply Vq.vexit); exact rfl)
      | ((with_reducible apply Vq.vregion); case hr => exact rfl)
      | ((with_reducible apply Vq.vdraw); case hr => exact rfl)
      | with_reducible apply Vq.vseq
      | with_reducible apply Vq.vblock
      | ((with_reducible apply Vq.vcond); exact rfl; dsimp only [Vq.pickC])
      | (dsimp only [Vq.afterSeq]; done)
      | ((with_reducible apply Vq.vab0); exact rfl)
      | ((with_reducible apply Vq.vab1); exact rfl)
      | ((with_reducible apply Vq.vabr); exact rfl)
      | ((with_reducible apply Vq.vabx); (· decide); exact rfl)
      | dsimp only [Vq.afterSeq])
    dsimp only [afterSeq]
    repeat' (first
      | with_reducible exact Vq.runOps_nil
      | ((with_reducible apply Vq.runOps_cons); exact rfl; (try simp only [St.setS, St.slot, St.setO, St.obj, List.set_cons_succ, List.set_cons_zero, List.getD_cons_succ, List.getD_cons_zero, V.withLeaves, List.headD_cons, V.borrow, freeze1, borrows, borrow1, V.leaves, V.nextg, List.length_cons, List.length_nil, Nat.reduceAdd, Nat.reduceSub, layTup, obj1, splice, List.take_succ_cons, List.take_zero, List.drop_succ_cons, List.drop_zero, List.cons_append, List.nil_append, List.append_nil, Bool.false_eq_true, if_true, if_false, Bool.not_true, Bool.not_false, hadd]))
      | with_reducible exact Vq.runDraw_nil
      | ((with_reducible apply Vq.runDraw_cons); exact rfl; exact rfl; exact rfl; (try simp only [St.setS, St.slot, St.setO, St.obj, List.set_cons_succ, List.set_cons_zero, List.getD_cons_succ, List.getD_cons_zero, V.withLeaves, List.headD_cons, V.borrow, freeze1, borrows, borrow1, V.leaves, V.nextg, List.length_cons, List.length_nil, Nat.reduceAdd, Nat.reduceSub, layTup, obj1, splice, List.take_succ_cons, List.take_zero, List.drop_succ_cons, List.drop_zero, List.cons_append, List.nil_append, List.append_nil, Bool.false_eq_true, if_true, if_false, Bool.not_true, Bool.not_false, hadd]))
      | ((with_reducible apply Vq.vret); exact rfl)
      | ((with_reducible apply Vq.vskip); exact rfl)
      | ((with_reducible apply Vq.vexit); exact rfl)
      | ((with_reducible apply Vq.vregion); case hr => exact rfl)
      | ((with_reducible apply Vq.vdraw); case hr => exact rfl)
      | with_reducible apply Vq.vseq
      | with_reducible apply Vq.vblock
      | ((with_reducible apply Vq.vcond); exact rfl; dsimp only [Vq.pickC])
      | (dsimp only [Vq.afterSeq]; done)
      | ((with_reducible apply Vq.vab0); exact rfl)
      | ((with_reducible apply Vq.vab1); exact rfl)
      | ((with_reducible apply Vq.vabr); exact rfl)
      | ((with_reducible apply Vq.vabx); (· decide); exact rfl)
      | dsimp only [Vq.afterSeq])
  · have e : out ++ tx ss[i] = out ++ dgs [((ss[i]).length : Int)] ++ bytesV ss[i] := by simp [tx, dgs]
    rw [e]
    exact rfl
theorem out38 (ss : List (List UInt8)) (out : List V) (i : Nat) (hi : ss.length ≤ i) : step cal its again 0 body38 (st38 ss out i) = some (.exit 0, ex38 ss out i) := by
  have hlt : decide ((i : Int) < ((ss.map V.str).length : Int)) = false := by simp; omega
  unfold body38 st38 ex38
  repeat' (first
      | with_reducible exact Vq.runOps_nil
      | ((with_reducible apply Vq.runOps_cons); exact rfl; (try simp only [St.setS, St.slot, St.setO, St.obj, List.set_cons_succ, List.set_cons_zero, List.getD_cons_succ, List.getD_cons_zero, V.withLeaves, List.headD_cons, V.borrow, freeze1, borrows, borrow1, V.leaves, V.nextg, List.length_cons, List.length_nil, Nat.reduceAdd, Nat.reduceSub, layTup, obj1, splice, List.take_succ_cons, List.take_zero, List.drop_succ_cons, List.drop_zero, List.cons_append, List.nil_append, List.append_nil, Bool.false_eq_true, if_true, if_false, Bool.not_true, Bool.not_false, hlt]))
      | with_reducible exact Vq.runDraw_nil
      | ((with_reducible apply Vq.runDraw_cons); exact rfl; exact rfl; exact rfl; (try simp only [St.setS, St.slot, St.setO, St.obj, List.set_cons_succ, List.set_cons_zero, List.getD_cons_succ, List.getD_cons_zero, V.withLeaves, List.headD_cons, V.borrow, freeze1, borrows, borrow1, V.leaves, V.nextg, List.length_cons, List.length_nil, Nat.reduceAdd, Nat.reduceSub, layTup, obj1, splice, List.take_succ_cons, List.take_zero, List.drop_succ_cons, List.drop_zero, List.cons_append, List.nil_append, List.append_nil, Bool.false_eq_true, if_true, if_false, Bool.not_true, Bool.not_false, hlt]))
      | ((with_reducible apply Vq.vret); exact rfl)
      | ((with_reducible apply Vq.vskip); exact rfl)
      | ((with_reducible apply Vq.vexit); exact rfl)
      | ((with_reducible apply Vq.vregion); case hr => exact rfl)
      | ((with_reducible apply Vq.vdraw); case hr => exact rfl)
      | with_reducible apply Vq.vseq
      | with_reducible apply Vq.vblock
      | ((with_reducible apply Vq.vcond); exact rfl; dsimp only [Vq.pickC])
      | (dsimp only [Vq.afterSeq]; done)
      | ((with_reducible apply Vq.vab0); exact rfl)
      | ((with_reducible apply Vq.vab1); exact rfl)
      | ((with_reducible apply Vq.vabr); exact rfl)
      | ((with_reducible apply Vq.vabx); (· decide); exact rfl)
      | dsimp only [Vq.afterSeq])
def txs (ss : List (List UInt8)) : List V := ss.flatMap tx
theorem tx_len (s : List UInt8) (h : s.length ≤ 1000) : (tx s).length ≤ 1010 := by have := dg_len (s.length : Int); simp [tx, bytesV]; omega
theorem noslice_bytes (s : List UInt8) : ∀ x ∈ bytesV s, x.noslice = true := by
  intro x hx
  simp only [bytesV, List.mem_map] at hx
  obtain ⟨b, _, rfl⟩ := hx
  rfl
theorem noslice_tx (s : List UInt8) : ∀ x ∈ tx s, x.noslice = true := by
  intro x hx
  rcases List.mem_append.1 hx with hx | hx
  · exact noslice_dg _ x hx
  · exact noslice_bytes _ x hx
theorem noslice_app {a b : List V} (ha : ∀ x ∈ a, x.noslice = true) (hb : ∀ x ∈ b, x.noslice = true) : ∀ x ∈ a ++ b, x.noslice = true := by
  intro x hx
  rcases List.mem_append.1 hx with hx | hx
  · exact ha x hx
  · exact hb x hx
theorem loop38 (G : VProg) (ss : List (List UInt8)) (hss : ss.length ≤ 1000) (hs : ∀ s ∈ ss, s.length ≤ 1000)
    (h35 : ∀ (n : Int) (out : List V) (m : Nat), 0 ≤ n → n < 18446744073709551616 → (∀ x ∈ out, x.noslice = true) → out.length + 22 ≤ 140737488355328 → 12 ≤ m → call G m 35 [.isl 0 1 out, .isl 0 1 [.int .u64 n]] [] = some (.xsl 0 1 (out ++ dgs [n]), [])) : ∀ (j i m : Nat) (out : List V) (σ : St), i + j = ss.length → out.length + 1020 * j + 1020 ≤ 140737488355328 → (∀ x ∈ out, x.noslice = true) → 12 + j ≤ m → rebase? (some [1, 5, 10, 11, 12]) 0 σ = st38 ss out i →
    step (call G m) (itersOf G) (exec G m) 0 (.loop (some [1, 5, 10, 11, 12]) body38) σ = some (.exit 0, ex38 ss (out ++ txs (ss.drop i)) ss.length)
  | 0, i, m, out, σ, hi, hb, hno, hm, hr => by
    refine step_loop_out hr ?_ (by intro e; cases e)
    obtain rfl : i = ss.length := by omega
    simp only [List.drop_length, txs, List.flatMap_nil, List.append_nil]
    exact out38 _ _ _ ss out _ (Nat.le_refl _)
  | j + 1, i, m, out, σ, hi, hb, hno, hm, hr => by
    cases m with
    | zero => omega
    | succ m =>
    have hsi := hs ss[i] (List.getElem_mem (by omega))
    obtain ⟨r, h1, h2⟩ := round38 (call G (m + 1)) (itersOf G) (exec G (m + 1)) ss out i (by omega) hss hsi (by omega) hno (h35 _ _ _ (by omega) (by omega) hno (by omega) (by omega))
    have hd := tx_len ss[i] hsi
    have h3 := loop38 G ss hss hs h35 j (i + 1) m _ r (by omega) (by simp; omega) (noslice_app hno (noslice_tx _)) (by omega) h2
    refine step_loop hr h1 ?_
    rw [exec_succ, h3]
    rw [List.drop_eq_getElem_cons (show i < ss.length by omega)]
    simp only [txs, List.flatMap_cons, List.append_assoc]
theorem text38 (G : VProg) (hG : G 38 = some (.code v38)) (h53 : ∀ m es, es.length ≤ 140737488355328 → call G m 53 [.isl 0 1 es] [] = some (.xsl 0 1 es, [])) (ss : List (List UInt8)) (hss : ss.length ≤ 1000) (hs : ∀ s ∈ ss, s.length ≤ 1000)
    (h35 : ∀ (n : Int) (out : List V) (m : Nat), 0 ≤ n → n < 18446744073709551616 → (∀ x ∈ out, x.noslice = true) → out.length + 22 ≤ 140737488355328 → 12 ≤ m → call G m 35 [.isl 0 1 out, .isl 0 1 [.int .u64 n]] [] = some (.xsl 0 1 (out ++ dgs [n]), []))
    (b : List V) (hno : ∀ x ∈ b, x.noslice = true) (hb : b.length + 1020 * ss.length + 1020 ≤ 140737488355328) (m : Nat) (hm : ss.length + 13 ≤ m) :
    call G m 38 [.isl 0 1 b, .isl 0 1 (ss.map V.str)] [] = some (.xsl 0 1 (b ++ txs ss), []) := by
  obtain ⟨m, rfl⟩ : ∃ k, m = k + 1 := ⟨m - 1, by omega⟩
  apply call_code (o := .ret) hG ⟨rfl, by decide⟩
  · change step (call G m) (itersOf G) (exec G m) 0 b38 _ = _
    (try simp only [Vq.start, List.length_cons, List.length_nil, List.map_cons, List.map_nil, List.cons_append, List.nil_append, List.replicate_succ, List.replicate_zero, Nat.reduceAdd, Nat.reduceSub, v38])
    unfold b38
    (with_reducible apply Vq.vseq)
    · repeat' (first
      | with_reducible exact Vq.runOps_nil
      | ((with_reducible apply Vq.runOps_cons); exact rfl; (try simp only [St.setS, St.slot, St.setO, St.obj, List.set_cons_succ, List.set_cons_zero, List.getD_cons_succ, List.getD_cons_zero, V.withLeaves, List.headD_cons, V.borrow, freeze1, borrows, borrow1, V.leaves, V.nextg, List.length_cons, List.length_nil, Nat.reduceAdd, Nat.reduceSub, layTup, obj1, splice, List.take_succ_cons, List.take_zero, List.drop_succ_cons, List.drop_zero, List.cons_append, List.nil_append, List.append_nil, Bool.false_eq_true, if_true, if_false, Bool.not_true, Bool.not_false]))
      | with_reducible exact Vq.runDraw_nil
      | ((with_reducible apply Vq.runDraw_cons); exact rfl; exact rfl; exact rfl; (try simp only [St.setS, St.slot, St.setO, St.obj, List.set_cons_succ, List.set_cons_zero, List.getD_cons_succ, List.getD_cons_zero, V.withLeaves, List.headD_cons, V.borrow, freeze1, borrows, borrow1, V.leaves, V.nextg, List.length_cons, List.length_nil, Nat.reduceAdd, Nat.reduceSub, layTup, obj1, splice, List.take_succ_cons, List.take_zero, List.drop_succ_cons, List.drop_zero, List.cons_append, List.nil_append, List.append_nil, Bool.false_eq_true, if_true, if_false, Bool.not_true, Bool.not_false]))
      | ((with_reducible apply Vq.vret); exact rfl)
      | ((with_reducible apply Vq.vskip); exact rfl)
      | ((with_reducible apply Vq.vexit); exact rfl)
      | ((with_reducible apply Vq.vregion); case hr => exact rfl)
      | ((with_reducible apply Vq.vdraw); case hr => exact rfl)
      | with_reducible apply Vq.vseq
      | with_reducible apply Vq.vblock
      | ((with_reducible apply Vq.vcond); exact rfl; dsimp only [Vq.pickC])
      | (dsimp only [Vq.afterSeq]; done)
      | ((with_reducible apply Vq.vab0); exact rfl)
      | ((with_reducible apply Vq.vab1); exact rfl)
      | ((with_reducible apply Vq.vabr); exact rfl)
      | ((with_reducible apply Vq.vabx); (· decide); exact rfl)
      | dsimp only [Vq.afterSeq])
    dsimp only [afterSeq]
    (with_reducible apply Vq.vseq)
    · repeat' (first
      | with_reducible exact Vq.runOps_nil
      | ((with_reducible apply Vq.runOps_cons); exact rfl; (try simp only [St.setS, St.slot, St.setO, St.obj, List.set_cons_succ, List.set_cons_zero, List.getD_cons_succ, List.getD_cons_zero, V.withLeaves, List.headD_cons, V.borrow, freeze1, borrows, borrow1, V.leaves, V.nextg, List.length_cons, List.length_nil, Nat.reduceAdd, Nat.reduceSub, layTup, obj1, splice, List.take_succ_cons, List.take_zero, List.drop_succ_cons, List.drop_zero, List.cons_append, List.nil_append, List.append_nil, Bool.false_eq_true, if_true, if_false, Bool.not_true, Bool.not_false]))
      | ((with_reducible apply Vq.runOps_cons); (apply Vq.vcallL; exact rfl; exact fun _ => rfl; exact fun _ => rfl; exact fun _ => rfl; exact fun _ => rfl; decide; exact rfl; exact rfl; (first | exact h53 _ _ (by omega)); exact rfl); (try simp only [St.setS, St.slot, St.setO, St.obj, List.set_cons_succ, List.set_cons_zero, List.getD_cons_succ, List.getD_cons_zero, V.withLeaves, List.headD_cons, V.borrow, freeze1, borrows, borrow1, V.leaves, V.nextg, List.length_cons, List.length_nil, Nat.reduceAdd, Nat.reduceSub, layTup, obj1, splice, List.take_succ_cons, List.take_zero, List.drop_succ_cons, List.drop_zero, List.cons_append, List.nil_append, List.append_nil, Bool.false_eq_true, if_true, if_false, Bool.not_true, Bool.not_false]))
      | ((with_reducible apply Vq.runOps_cons); (apply Vq.vcallA; exact rfl; exact fun _ => rfl; exact rfl; (first | exact h53 _ _ (by omega)); (first | exact rfl | (simp [Vq.V.apart, Vq.V.leaves, Vq.V.noslice]; done) | (simp [Vq.V.apart, Vq.V.leaves, Vq.V.noslice]; assumption)); exact rfl); (try simp only [St.setS, St.slot, St.setO, St.obj, List.set_cons_succ, List.set_cons_zero, List.getD_cons_succ, List.getD_cons_zero, V.withLeaves, List.headD_cons, V.borrow, freeze1, borrows, borrow1, V.leaves, V.nextg, List.length_cons, List.length_nil, Nat.reduceAdd, Nat.reduceSub, layTup, obj1, splice, List.take_succ_cons, List.take_zero, List.drop_succ_cons, List.drop_zero, List.cons_append, List.nil_append, List.append_nil, Bool.false_eq_true, if_true, if_false, Bool.not_true, Bool.not_false]))
      | with_reducible exact Vq.runDraw_nil
      | ((with_reducible apply Vq.runDraw_cons); exact rfl; exact rfl; exact rfl; (try simp only [St.setS, St.slot, St.setO, St.obj, List.set_cons_succ, List.set_cons_zero, List.getD_cons_succ, List.getD_cons_zero, V.withLeaves, List.headD_cons, V.borrow, freeze1, borrows, borrow1, V.leaves, V.nextg, List.length_cons, List.length_nil, Nat.reduceAdd, Nat.reduceSub, layTup, obj1, splice, List.take_succ_cons, List.take_zero, List.drop_succ_cons, List.drop_zero, List.cons_append, List.nil_append, List.append_nil, Bool.false_eq_true, if_true, if_false, Bool.not_true, Bool.not_false]))
      | ((with_reducible apply Vq.vret); exact rfl)
      | ((with_reducible apply Vq.vskip); exact rfl)
      | ((with_reducible apply Vq.vexit); exact rfl)
      | ((with_reducible apply Vq.vregion); case hr => exact rfl)
      | ((with_reducible apply Vq.vdraw); case hr => exact rfl)
      | with_reducible apply Vq.vseq
      | with_reducible apply Vq.vblock
      | ((with_reducible apply Vq.vcond); exact rfl; dsimp only [Vq.pickC])
      | (dsimp only [Vq.afterSeq]; done)
      | ((with_reducible apply Vq.vab0); exact rfl)
      | ((with_reducible apply Vq.vab1); exact rfl)
      | ((with_reducible apply Vq.vabr); exact rfl)
      | ((with_reducible apply Vq.vabx); (· decide); exact rfl)
      | dsimp only [Vq.afterSeq])
    dsimp only [afterSeq]
    (with_reducible apply Vq.vseq)
    · (with_reducible apply Vq.vseq)
      · repeat' (first
      | with_reducible exact Vq.runOps_nil
      | ((with_reducible apply Vq.runOps_cons); exact rfl; (try simp only [St.setS, St.slot, St.setO, St.obj, List.set_cons_succ, List.set_cons_zero, List.getD_cons_succ, List.getD_cons_zero, V.withLeaves, List.headD_cons, V.borrow, freeze1, borrows, borrow1, V.leaves, V.nextg, List.length_cons, List.length_nil, Nat.reduceAdd, Nat.reduceSub, layTup, obj1, splice, List.take_succ_cons, List.take_zero, List.drop_succ_cons, List.drop_zero, List.cons_append, List.nil_append, List.append_nil, Bool.false_eq_true, if_true, if_false, Bool.not_true, Bool.not_false]))
      | with_reducible exact Vq.runDraw_nil
      | ((with_reducible apply Vq.runDraw_cons); exact rfl; exact rfl; exact rfl; (try simp only [St.setS, St.slot, St.setO, St.obj, List.set_cons_succ, List.set_cons_zero, List.getD_cons_succ, List.getD_cons_zero, V.withLeaves, List.headD_cons, V.borrow, freeze1, borrows, borrow1, V.leaves, V.nextg, List.length_cons, List.length_nil, Nat.reduceAdd, Nat.reduceSub, layTup, obj1, splice, List.take_succ_cons, List.take_zero, List.drop_succ_cons, List.drop_zero, List.cons_append, List.nil_append, List.append_nil, Bool.false_eq_true, if_true, if_false, Bool.not_true, Bool.not_false]))
      | ((with_reducible apply Vq.vret); exact rfl)
      | ((with_reducible apply Vq.vskip); exact rfl)
      | ((with_reducible apply Vq.vexit); exact rfl)
      | ((with_reducible apply Vq.vregion); case hr => exact rfl)
      | ((with_reducible apply Vq.vdraw); case hr => exact rfl)
      | with_reducible apply Vq.vseq
      | with_reducible apply Vq.vblock
      | ((with_reducible apply Vq.vcond); exact rfl; dsimp only [Vq.pickC])
      | (dsimp only [Vq.afterSeq]; done)
      | ((with_reducible apply Vq.vab0); exact rfl)
      | ((with_reducible apply Vq.vab1); exact rfl)
      | ((with_reducible apply Vq.vabr); exact rfl)
      | ((with_reducible apply Vq.vabx); (· decide); exact rfl)
      | dsimp only [Vq.afterSeq])
      dsimp only [afterSeq]
      (with_reducible apply vblock)
      · exact loop38 G ss hss hs h35 ss.length 0 m b _ (by omega) (by omega) hno (by omega) rfl
      · apply vabkx (τ := { slots := (.gone 0 :: .gone 0 :: .gone 0 :: .gone 0 :: .gone 0 :: .xsl 0 1 (b ++ txs ss) :: .gone 0 :: .gone 0 :: .gone 0 :: .gone 0 :: .gone 0 :: .gone 0 :: .gone 0 :: .gone 0 :: .gone 0 :: .gone 0 :: .gone 0 :: .gone 0 :: .gone 0 :: .gone 0 :: .gone 0 :: .gone 0 :: .gone 0 :: .gone 0 :: .gone 0 :: .gone 0 :: []), objs := [] }) rfl
        exact rfl
    dsimp only [afterSeq]
    repeat' (first
      | with_reducible exact Vq.runOps_nil
      | ((with_reducible apply Vq.runOps_cons); exact rfl; (try simp only [St.setS, St.slot, St.setO, St.obj, List.set_cons_succ, List.set_cons_zero, List.getD_cons_succ, List.getD_cons_zero, V.withLeaves, List.headD_cons, V.borrow, freeze1, borrows, borrow1, V.leaves, V.nextg, List.length_cons, List.length_nil, Nat.reduceAdd, Nat.reduceSub, layTup, obj1, splice, List.take_succ_cons, List.take_zero, List.drop_succ_cons, List.drop_zero, List.cons_append, List.nil_append, List.append_nil, Bool.false_eq_true, if_true, if_false, Bool.not_true, Bool.not_false]))
      | with_reducible exact Vq.runDraw_nil
      | ((with_reducible apply Vq.runDraw_cons); exact rfl; exact rfl; exact rfl; (try simp only [St.setS, St.slot, St.setO, St.obj, List.set_cons_succ, List.set_cons_zero, List.getD_cons_succ, List.getD_cons_zero, V.withLeaves, List.headD_cons, V.borrow, freeze1, borrows, borrow1, V.leaves, V.nextg, List.length_cons, List.length_nil, Nat.reduceAdd, Nat.reduceSub, layTup, obj1, splice, List.take_succ_cons, List.take_zero, List.drop_succ_cons, List.drop_zero, List.cons_append, List.nil_append, List.append_nil, Bool.false_eq_true, if_true, if_false, Bool.not_true, Bool.not_false]))
      | ((with_reducible apply Vq.vret); exact rfl)
      | ((with_reducible apply Vq.vskip); exact rfl)
      | ((with_reducible apply Vq.vexit); exact rfl)
      | ((with_reducible apply Vq.vregion); case hr => exact rfl)
      | ((with_reducible apply Vq.vdraw); case hr => exact rfl)
      | with_reducible apply Vq.vseq
      | with_reducible apply Vq.vblock
      | ((with_reducible apply Vq.vcond); exact rfl; dsimp only [Vq.pickC])
      | (dsimp only [Vq.afterSeq]; done)
      | ((with_reducible apply Vq.vab0); exact rfl)
      | ((with_reducible apply Vq.vab1); exact rfl)
      | ((with_reducible apply Vq.vabr); exact rfl)
      | ((with_reducible apply Vq.vabx); (· decide); exact rfl)
      | dsimp only [Vq.afterSeq])
  · exact .inr rfl
  · first | exact rfl | (apply Vq.vfin; (· apply Vq.run_asks; (· simp); (try simp only [List.take_length, List.drop_zero]); (first | apply Vq.run_if trivial | apply Vq.run_if rfl); unfold Vq.sHome; simp only [Vq.Prog.run]; apply Vq.run_asks; (· exact Nat.zero_lt_one); exact rfl); (· exact rfl); (· exact rfl); (· decide); (· exact rfl); (· exact rfl))
theorem dgs_len : ∀ (ns : List Int), (dgs ns).length ≤ 10 * ns.length
  | [] => by simp [dgs]
  | n :: ns => by have := dgs_len ns; have := dg_len n; simp only [dgs, List.flatMap_cons, List.length_append, List.length_cons] at *; omega
theorem txs_len : ∀ (ss : List (List UInt8)), (∀ s ∈ ss, s.length ≤ 1000) → (txs ss).length ≤ 1010 * ss.length
  | [], _ => by simp [txs]
  | s :: ss, h => by have := txs_len ss (fun x hx => h x (by simp [hx])); have := tx_len s (h s (by simp)); simp only [txs, List.flatMap_cons, List.length_append, List.length_cons] at *; omega
end S5
end Go.Vq

