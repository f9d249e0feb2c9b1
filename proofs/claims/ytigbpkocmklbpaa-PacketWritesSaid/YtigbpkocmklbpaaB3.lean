/- The V-level machine, run on values that are not known (no law of Go is stated here). -/
import Derived.Test.YtigbpkocmklbpaaB2
set_option linter.unusedVariables false
set_option linter.unusedSimpArgs false
namespace Go.Vq
namespace S6
open Go S2 S3 S4 S5
set_option maxRecDepth 1000000
variable (cal : Callee) (its : FuncId → Iter) (again : Nat → VCode → St → Option (Out × St))
def bodya : VCode := (.seq (.region [{ dst := (some 34), op := .bin (.lss) (.tmp 33) (.tmp 32), guard := none, before := 0 }] false) (.seq (.cond (.tmp 34) (.skip) (.exit 0)) (.seq (.block 1 none (.seq (.region [{ dst := (some 35), op := .indexAddr none 1 (.tmp 31) (.tmp 33), guard := none, before := 0 }, { dst := (some 36), op := .load false 1 (.tmp 35), guard := none, before := 1 }, { dst := (some 9), op := .assign (.tmp 36), guard := none, before := 3 }] false) (.region [{ dst := (some 37), op := .move (.tmp 7), guard := none, before := 0 }, { dst := (some 38), op := .move (.tmp 9), guard := none, before := 0 }, { dst := (some 39), op := .call true 36 0 [(.tmp 38)], guard := none, before := 2 }, { dst := (some 40), op := .append 1 1 (.tmp 37) (.tmp 39), guard := none, before := 7 }, { dst := (some 7), op := .assign (.tmp 40), guard := none, before := 15 }] false))) (.region [{ dst := (some 41), op := .bin (.add) (.tmp 33) (.val (.int .i64 1)), guard := none, before := 0 }, { dst := (some 33), op := .move (.tmp 41), guard := none, before := 1 }] false))))
def sta (B N S want : List V) (i : Nat) : St :=
  { slots := (.isl 0 1 B :: .isl 0 1 N :: .isl 0 1 S :: .gone 0 :: .gone 0 :: .gone 0 :: .gone 0 :: .xsl 0 1 want :: .gone 0 :: .gone 0 :: .gone 0 :: .gone 0 :: .gone 0 :: .gone 0 :: .gone 0 :: .gone 0 :: .gone 0 :: .gone 0 :: .gone 0 :: .gone 0 :: .gone 0 :: .gone 0 :: .gone 0 :: .gone 0 :: .gone 0 :: .gone 0 :: .gone 0 :: .gone 0 :: .gone 0 :: .gone 0 :: .gone 0 :: .isl 0 1 N :: .int .i64 N.length :: .int .i64 i :: .gone 0 :: .gone 0 :: .gone 0 :: .gone 0 :: .gone 0 :: .gone 0 :: .gone 0 :: .gone 0 :: .gone 0 :: .gone 0 :: .gone 0 :: .gone 0 :: .gone 0 :: .gone 0 :: .gone 0 :: .gone 0 :: .gone 0 :: .gone 0 :: .gone 0 :: .gone 0 :: .gone 0 :: .gone 0 :: .gone 0 :: .gone 0 :: .gone 0 :: .gone 0 :: .gone 0 :: .gone 0 :: .gone 0 :: .gone 0 :: .gone 0 :: .gone 0 :: .gone 0 :: .gone 0 :: .gone 0 :: .gone 0 :: .gone 0 :: .gone 0 :: .gone 0 :: []), objs := [] }
def exa (B N S want : List V) (i : Nat) : St :=
  { slots := (.isl 0 1 B :: .isl 0 1 N :: .isl 0 1 S :: .gone 0 :: .gone 0 :: .gone 0 :: .gone 0 :: .xsl 0 1 want :: .gone 0 :: .gone 0 :: .gone 0 :: .gone 0 :: .gone 0 :: .gone 0 :: .gone 0 :: .gone 0 :: .gone 0 :: .gone 0 :: .gone 0 :: .gone 0 :: .gone 0 :: .gone 0 :: .gone 0 :: .gone 0 :: .gone 0 :: .gone 0 :: .gone 0 :: .gone 0 :: .gone 0 :: .gone 0 :: .gone 0 :: .isl 0 1 N :: .int .i64 N.length :: .int .i64 i :: .bool false :: .gone 0 :: .gone 0 :: .gone 0 :: .gone 0 :: .gone 0 :: .gone 0 :: .gone 0 :: .gone 0 :: .gone 0 :: .gone 0 :: .gone 0 :: .gone 0 :: .gone 0 :: .gone 0 :: .gone 0 :: .gone 0 :: .gone 0 :: .gone 0 :: .gone 0 :: .gone 0 :: .gone 0 :: .gone 0 :: .gone 0 :: .gone 0 :: .gone 0 :: .gone 0 :: .gone 0 :: .gone 0 :: .gone 0 :: .gone 0 :: .gone 0 :: .gone 0 :: .gone 0 :: .gone 0 :: .gone 0 :: .gone 0 :: .gone 0 :: .gone 0 :: []), objs := [] }
def mid11 (B N S want : List V) : St :=
  { slots := (.isl 0 1 B :: .isl 0 1 N :: .isl 0 1 S :: .gone 0 :: .gone 0 :: .gone 0 :: .gone 0 :: .xsl 0 1 want :: .gone 0 :: .gone 0 :: .gone 0 :: .gone 0 :: .gone 0 :: .gone 0 :: .gone 0 :: .gone 0 :: .gone 0 :: .gone 0 :: .gone 0 :: .gone 0 :: .gone 0 :: .gone 0 :: .gone 0 :: .gone 0 :: .gone 0 :: .gone 0 :: .gone 0 :: .gone 0 :: .gone 0 :: .gone 0 :: .gone 0 :: .gone 0 :: .gone 0 :: .gone 0 :: .gone 0 :: .gone 0 :: .gone 0 :: .gone 0 :: .gone 0 :: .gone 0 :: .gone 0 :: .gone 0 :: .gone 0 :: .gone 0 :: .gone 0 :: .gone 0 :: .gone 0 :: .gone 0 :: .gone 0 :: .gone 0 :: .gone 0 :: .gone 0 :: .gone 0 :: .gone 0 :: .gone 0 :: .gone 0 :: .gone 0 :: .gone 0 :: .gone 0 :: .gone 0 :: .gone 0 :: .gone 0 :: .gone 0 :: .gone 0 :: .gone 0 :: .gone 0 :: .gone 0 :: .gone 0 :: .gone 0 :: .gone 0 :: .gone 0 :: .gone 0 :: .gone 0 :: []), objs := [] }
theorem rounda (B S want : List V) (ns : List Int) (i : Nat) (hi : i < ns.length) (hss : ns.length ≤ 1000) (hb : want.length + 20 ≤ 140737488355328)
    (h36 : cal 36 [.int .u64 ns[i]] [] = some (.xsl 0 1 (dg ns[i]), [])) :
    ∃ s, step cal its again 0 bodya (sta B (ns.map (V.int .u64)) S want i) = some (.normal, s) ∧ rebase? (some [0, 1, 2, 7, 31, 32, 33]) 0 s = sta B (ns.map (V.int .u64)) S (want ++ dg ns[i]) (i + 1) := by
  have hx : (ns.map (V.int .u64))[((i : Int)).toNat]? = some (.int .u64 ns[i]) := by simp [hi]
  have hlt : decide ((i : Int) < ((ns.map (V.int .u64)).length : Int)) = true := by simp; omega
  have hadd := inc_i64 i (by omega)
  have hns := noslice_dg ns[i]
  have hdl := dg_len ns[i]
  unfold bodya sta
  apply vround
  · (with_reducible apply Vq.vseq)
    · repeat' (first
      | with_reducible exact Vq.runOps_nil
      | ((with_reducible apply Vq.runOps_cons); exact rfl; (try simp only [St.setS, St.slot, St.setO, St.obj, List.set_cons_succ, List.set_cons_zero, List.getD_cons_succ, List.getD_cons_zero, V.withLeaves, List.headD_cons, V.borrow, freeze1, borrows, borrow1, V.leaves, V.nextg, List.length_cons, List.length_nil, Nat.reduceAdd, Nat.reduceSub, layTup, obj1, splice, List.take_succ_cons, List.take_zero, List.drop_succ_cons, List.drop_zero, List.cons_append, List.nil_append, List.append_nil, Bool.false_eq_true, if_true, if_false, Bool.not_true, Bool.not_false, hlt]))
      | with_reducible exact Vq.runDraw_nil
      | ((with_reducible apply Vq.runDraw_cons); exact rfl; exact rfl; exact rfl; (try simp only [St.setS, St.slot, St.setO, St.obj, List.set_cons_succ, List.set_cons_zero, List.getD_cons_succ, List.getD_cons_zero, V.withLeaves, List.headD_cons, V.borrow, freeze1, borrows, borrow1, V.leaves, V.nextg, List.length_cons, List.length_nil, Nat.reduceAdd, Nat.reduceSub, layTup, obj1, splice, List.take_succ_cons, List.take_zero, List.drop_succ_cons, List.drop_zero, List.cons_append, List.nil_append, List.append_nil, Bool.false_eq_true, if_true, if_false, Bool.not_true, Bool.not_false, hlt]))
      | ((with_reducible apply Vq.vret); exact rfl)
      | ((with_reducible apply Vq.vskip); exact rfl)
      | ((with_reducible apply Vq.vexit); exact rfl)
      | ((with_reducible apply Vq.vregion); case hr => exact rfl)
      | ((with_reducible apply Vq.vdraw); case hr => exact rfl)
      | with_reducible apply Vq.vseq
      | with_reducible apply Vq.vblock
      | ((with_reducible apply Vq.vcond); exact rfl; dsimp only [Vq.pickC])
      | (dsimp only [Vq.afterSeq]; done)
      | ((with_reducible apply Vq.vab0); exact rfl)
      | ((with_reducible apply Vq.vab1); exact rfl)
      | ((with_reducible apply Vq.vabr); exact rfl)
      | ((with_reducible apply Vq.vabx); (· decide); exact rfl)
      | dsimp only [Vq.afterSeq])
    dsimp only [afterSeq]
    (with_reducible apply Vq.vseq)
    · repeat' (first
      | with_reducible exact Vq.runOps_nil
      | ((with_reducible apply Vq.runOps_cons); exact rfl; (try simp only [St.setS, St.slot, St.setO, St.obj, List.set_cons_succ, List.set_cons_zero, List.getD_cons_succ, List.getD_cons_zero, V.withLeaves, List.headD_cons, V.borrow, freeze1, borrows, borrow1, V.leaves, V.nextg, List.length_cons, List.length_nil, Nat.reduceAdd, Nat.reduceSub, layTup, obj1, splice, List.take_succ_cons, List.take_zero, List.drop_succ_cons, List.drop_zero, List.cons_append, List.nil_append, List.append_nil, Bool.false_eq_true, if_true, if_false, Bool.not_true, Bool.not_false, hlt]))
      | with_reducible exact Vq.runDraw_nil
      | ((with_reducible apply Vq.runDraw_cons); exact rfl; exact rfl; exact rfl; (try simp only [St.setS, St.slot, St.setO, St.obj, List.set_cons_succ, List.set_cons_zero, List.getD_cons_succ, List.getD_cons_zero, V.withLeaves, List.headD_cons, V.borrow, freeze1, borrows, borrow1, V.leaves, V.nextg, List.length_cons, List.length_nil, Nat.reduceAdd, Nat.reduceSub, layTup, obj1, splice, List.take_succ_cons, List.take_zero, List.drop_succ_cons, List.drop_zero, List.cons_append, List.nil_append, List.append_nil, Bool.false_eq_true, if_true, if_false, Bool.not_true, Bool.not_false, hlt]))
      | ((with_reducible apply Vq.vret); exact rfl)
      | ((with_reducible apply Vq.vskip); exact rfl)
      | ((with_reducible apply Vq.vexit); exact rfl)
      | ((with_reducible apply Vq.vregion); case hr => exact rfl)
      | ((with_reducible apply Vq.vdraw); case hr => exact rfl)
      | with_reducible apply Vq.vseq
      | with_reducible apply Vq.vblock
      | ((with_reducible apply Vq.vcond); exact rfl; dsimp only [Vq.pickC])
      | (dsimp only [Vq.afterSeq]; done)
      | ((with_reducible apply Vq.vab0); exact rfl)
      | ((with_reducible apply Vq.vab1); exact rfl)
      | ((with_reducible apply Vq.vabr); exact rfl)
      | ((with_reducible apply Vq.vabx); (· decide); exact rfl)
      | dsimp only [Vq.afterSeq])
    dsimp only [afterSeq]
    (with_reducible apply Vq.vseq)
    · (with_reducible apply vblock)
      · (with_reducible apply Vq.vseq)
        · (with_reducible apply Vq.vregion); case hr => exact rfl
          (with_reducible apply Vq.runOps_cons)
          · apply vidx rfl rfl (.inl rfl) (by omega) hx
            exact rfl
          (try simp only [St.setS, St.slot, St.setO, St.obj, List.set_cons_succ, List.set_cons_zero, List.getD_cons_succ, List.getD_cons_zero, V.withLeaves, List.headD_cons, V.borrow, freeze1, borrows, borrow1, V.leaves, V.nextg, List.length_cons, List.length_nil, Nat.reduceAdd, Nat.reduceSub, layTup, obj1, splice, List.take_succ_cons, List.take_zero, List.drop_succ_cons, List.drop_zero, List.cons_append, List.nil_append, List.append_nil, Bool.false_eq_true, if_true, if_false, Bool.not_true, Bool.not_false])
          repeat' (first
      | with_reducible exact Vq.runOps_nil
      | ((with_reducible apply Vq.runOps_cons); exact rfl; (try simp only [St.setS, St.slot, St.setO, St.obj, List.set_cons_succ, List.set_cons_zero, List.getD_cons_succ, List.getD_cons_zero, V.withLeaves, List.headD_cons, V.borrow, freeze1, borrows, borrow1, V.leaves, V.nextg, List.length_cons, List.length_nil, Nat.reduceAdd, Nat.reduceSub, layTup, obj1, splice, List.take_succ_cons, List.take_zero, List.drop_succ_cons, List.drop_zero, List.cons_append, List.nil_append, List.append_nil, Bool.false_eq_true, if_true, if_false, Bool.not_true, Bool.not_false]))
      | with_reducible exact Vq.runDraw_nil
      | ((with_reducible apply Vq.runDraw_cons); exact rfl; exact rfl; exact rfl; (try simp only [St.setS, St.slot, St.setO, St.obj, List.set_cons_succ, List.set_cons_zero, List.getD_cons_succ, List.getD_cons_zero, V.withLeaves, List.headD_cons, V.borrow, freeze1, borrows, borrow1, V.leaves, V.nextg, List.length_cons, List.length_nil, Nat.reduceAdd, Nat.reduceSub, layTup, obj1, splice, List.take_succ_cons, List.take_zero, List.drop_succ_cons, List.drop_zero, List.cons_append, List.nil_append, List.append_nil, Bool.false_eq_true, if_true, if_false, Bool.not_true, Bool.not_false]))
      | ((with_reducible apply Vq.vret); exact rfl)
      | ((with_reducible apply Vq.vskip); exact rfl)
      | ((with_reducible apply Vq.vexit); exact rfl)
      | ((with_reducible apply Vq.vregion); case hr => exact rfl)
      | ((with_reducible apply Vq.vdraw); case hr => exact rfl)
      | with_reducible apply Vq.vseq
      | with_reducible apply Vq.vblock
      | ((with_reducible apply Vq.vcond); exact rfl; dsimp only [Vq.pickC])
      | (dsimp only [Vq.afterSeq]; done)
      | ((with_reducible apply Vq.vab0); exact rfl)
      | ((with_reducible apply Vq.vab1); exact rfl)
      | ((with_reducible apply Vq.vabr); exact rfl)
      | ((with_reducible apply Vq.vabx); (· decide); exact rfl)
      | dsimp only [Vq.afterSeq])
        dsimp only [afterSeq]
        repeat' (first
      | with_reducible exact Vq.runOps_nil
      | ((with_reducible apply Vq.runOps_cons); exact rfl; (try simp only [St.setS, St.slot, St.setO, St.obj, List.set_cons_succ, List.set_cons_zero, List.getD_cons_succ, List.getD_cons_zero, V.withLeaves, List.headD_cons, V.borrow, freeze1, borrows, borrow1, V.leaves, V.nextg, List.length_cons, List.length_nil, Nat.reduceAdd, Nat.reduceSub, layTup, obj1, splice, List.take_succ_cons, List.take_zero, List.drop_succ_cons, List.drop_zero, List.cons_append, List.nil_append, List.append_nil, Bool.false_eq_true, if_true, if_false, Bool.not_true, Bool.not_false]))
      | ((with_reducible apply Vq.runOps_cons); (apply Vq.vcallL; exact rfl; exact fun _ => rfl; exact fun _ => rfl; exact fun _ => rfl; exact fun _ => rfl; decide; exact rfl; exact rfl; (first | exact h36); exact rfl); (try simp only [St.setS, St.slot, St.setO, St.obj, List.set_cons_succ, List.set_cons_zero, List.getD_cons_succ, List.getD_cons_zero, V.withLeaves, List.headD_cons, V.borrow, freeze1, borrows, borrow1, V.leaves, V.nextg, List.length_cons, List.length_nil, Nat.reduceAdd, Nat.reduceSub, layTup, obj1, splice, List.take_succ_cons, List.take_zero, List.drop_succ_cons, List.drop_zero, List.cons_append, List.nil_append, List.append_nil, Bool.false_eq_true, if_true, if_false, Bool.not_true, Bool.not_false]))
      | ((with_reducible apply Vq.runOps_cons); (apply Vq.vcallA; exact rfl; exact fun _ => rfl; exact rfl; (first | exact h36); (first | exact rfl | (simp [Vq.V.apart, Vq.V.leaves, Vq.V.noslice]; done) | (simp [Vq.V.apart, Vq.V.leaves, Vq.V.noslice]; assumption)); exact rfl); (try simp only [St.setS, St.slot, St.setO, St.obj, List.set_cons_succ, List.set_cons_zero, List.getD_cons_succ, List.getD_cons_zero, V.withLeaves, List.headD_cons, V.borrow, freeze1, borrows, borrow1, V.leaves, V.nextg, List.length_cons, List.length_nil, Nat.reduceAdd, Nat.reduceSub, layTup, obj1, splice, List.take_succ_cons, List.take_zero, List.drop_succ_cons, List.drop_zero, List.cons_append, List.nil_append, List.append_nil, Bool.false_eq_true, if_true, if_false, Bool.not_true, Bool.not_false]))
      | ((with_reducible apply Vq.runOps_cons); (apply Vq.run_asks; (· simp); (try simp only [List.take_length, List.drop_zero]); apply Vq.run_if trivial; unfold Vq.sHome; simp only [Vq.Prog.run]; apply Vq.run_asks; (· exact Nat.zero_lt_one); apply Vq.run_asks; (· exact ⟨trivial, by (simp; omega)⟩); exact rfl); (try simp only [St.setS, St.slot, St.setO, St.obj, List.set_cons_succ, List.set_cons_zero, List.getD_cons_succ, List.getD_cons_zero, V.withLeaves, List.headD_cons, V.borrow, freeze1, borrows, borrow1, V.leaves, V.nextg, List.length_cons, List.length_nil, Nat.reduceAdd, Nat.reduceSub, layTup, obj1, splice, List.take_succ_cons, List.take_zero, List.drop_succ_cons, List.drop_zero, List.cons_append, List.nil_append, List.append_nil, Bool.false_eq_true, if_true, if_false, Bool.not_true, Bool.not_false]); (try simp only [List.take_length, List.drop_zero]))
      | ((with_reducible apply Vq.runOps_cons); (apply Vq.run_asks; (· exact rfl); apply Vq.run_asks; (· exact ⟨rfl, by (simp; omega)⟩); exact rfl); (try simp only [St.setS, St.slot, St.setO, St.obj, List.set_cons_succ, List.set_cons_zero, List.getD_cons_succ, List.getD_cons_zero, V.withLeaves, List.headD_cons, V.borrow, freeze1, borrows, borrow1, V.leaves, V.nextg, List.length_cons, List.length_nil, Nat.reduceAdd, Nat.reduceSub, layTup, obj1, splice, List.take_succ_cons, List.take_zero, List.drop_succ_cons, List.drop_zero, List.cons_append, List.nil_append, List.append_nil, Bool.false_eq_true, if_true, if_false, Bool.not_true, Bool.not_false]))
      | ((with_reducible apply Vq.runOps_cons); (apply Vq.run_asks; (· exact ⟨rfl, by (simp; omega)⟩); exact rfl); (try simp only [St.setS, St.slot, St.setO, St.obj, List.set_cons_succ, List.set_cons_zero, List.getD_cons_succ, List.getD_cons_zero, V.withLeaves, List.headD_cons, V.borrow, freeze1, borrows, borrow1, V.leaves, V.nextg, List.length_cons, List.length_nil, Nat.reduceAdd, Nat.reduceSub, layTup, obj1, splice, List.take_succ_cons, List.take_zero, List.drop_succ_cons, List.drop_zero, List.cons_append, List.nil_append, List.append_nil, Bool.false_eq_true, if_true, if_false, Bool.not_true, Bool.not_false]))
      | with_reducible exact Vq.runDraw_nil
      | ((with_reducible apply Vq.runDraw_cons); exact rfl; exact rfl; exact rfl; (try simp only [St.setS, St.slot, St.setO, St.obj, List.set_cons_succ, List.set_cons_zero, List.getD_cons_succ, List.getD_cons_zero, V.withLeaves, List.headD_cons, V.borrow, freeze1, borrows, borrow1, V.leaves, V.nextg, List.length_cons, List.length_nil, Nat.reduceAdd, Nat.reduceSub, layTup, obj1, splice, List.take_succ_cons, List.take_zero, List.drop_succ_cons, List.drop_zero, List.cons_append, List.nil_append, List.append_nil, Bool.false_eq_true, if_true, if_false, Bool.not_true, Bool.not_false]))
      | ((with_reducible apply Vq.vret); exact rfl)
      | ((with_reducible apply Vq.vskip); exact rfl)
      | ((with_reducible apply Vq.vexit); exact rfl)
      | ((with_reducible apply Vq.vregion); case hr => exact rfl)
      | ((with_reducible apply Vq.vdraw); case hr => exact rfl)
      | with_reducible apply Vq.vseq
      | with_reducible apply Vq.vblock
      | ((with_reducible apply Vq.vcond); exact rfl; dsimp only [Vq.pickC])
      | (dsimp only [Vq.afterSeq]; done)
      | ((with_reducible apply Vq.vab0); exact rfl)
      | ((with_reducible apply Vq.vab1); exact rfl)
      | ((with_reducible apply Vq.vabr); exact rfl)
      | ((with_reducible apply Vq.vabx); (· decide); exact rfl)
      | dsimp only [Vq.afterSeq])
      repeat' (first
      | with_reducible exact Vq.runOps_nil
      | ((with_reducible apply Vq.runOps_cons); exact rfl; (try simp only [St.setS, St.slot, St.setO, St.obj, List.set_cons_succ, List.set_cons_zero, List.getD_cons_succ, List.getD_cons_zero, V.withLeaves, List.headD_cons, V.borrow, freeze1, borrows, borrow1, V.leaves, V.nextg, List.length_cons, List.length_nil, Nat.reduceAdd, Nat.reduceSub, layTup, obj1, splice, List.take_succ_cons, List.take_zero, List.drop_succ_cons, List.drop_zero, List.cons_append, List.nil_append, List.append_nil, Bool.false_eq_true, if_true, if_false, Bool.not_true, Bool.not_false]))
      | with_reducible exact Vq.runDraw_nil
      | ((with_reducible apply Vq.runDraw_cons); exact rfl; exact rfl; exact rfl; (try simp only [St.setS, St.slot, St.setO, St.obj, List.set_cons_succ, List.set_cons_zero, List.getD_cons_succ, List.getD_cons_zero, V.withLeaves, List.headD_cons, V.borrow, freeze1, borrows, borrow1, V.leaves, V.nextg, List.length_cons, List.length_nil, Nat.reduceAdd, Nat.reduceSub, layTup, obj1, splice, List.take_succ_cons, List.take_zero, List.drop_succ_cons, List.drop_zero, List.cons_append, List.nil_append, List.append_nil, Bool.false_eq_true, if_true, if_false, Bool.not_true, Bool.not_false]))
      | ((with_reducible apply Vq.vret); exact rfl)
      | ((with_reducible apply Vq.vskip); exact rfl)
      | ((with_reducible apply Vq.vexit); exact rfl)
      | ((with_reducible apply Vq.vregion); case hr => exact rfl)
      | ((with_reducible apply Vq.vdraw); case hr => exact rfl)
      | with_reducible apply Vq.vseq
      | with_reducible apply Vq.vblock
      | ((with_reducible apply Vq.vcond); exact rfl; dsimp only [Vq.pickC])
      | (dsimp only [Vq.afterSeq]; done)
      | ((with_reducible apply Vq.vab0); exact rfl)
      | ((with_reducible apply Vq.vab1); exact rfl)
      | ((with_reducible apply Vq.vabr); exact rfl)
      | ((with_reducible apply Vq.vabx); (· decide); exact rfl)
      | dsimp only [Vq.afterSeq])
    dsimp only [afterSeq]
    repeat' (first
      | with_reducible exact Vq.runOps_nil
      | ((with_reducible apply Vq.runOps_cons); exact rfl; (try simp only [St.setS, St.slot, St.setO, St.obj, List.set_cons_succ, List.set_cons_zero, List.getD_cons_succ, List.getD_cons_zero, V.withLeaves, List.headD_cons, V.borrow, freeze1, borrows, borrow1, V.leaves, V.nextg, List.length_cons, List.length_nil, Nat.reduceAdd, Nat.reduceSub, layTup, obj1, splice, List.take_succ_cons, List.take_zero, List.drop_succ_cons, List.drop_zero, List.cons_append, List.nil_append, List.append_nil, Bool.false_eq_true, if_true, if_false, Bool.not_true, Bool.not_false, hadd]))
      | with_reducible exact Vq.runDraw_nil
      | ((with_reducible apply Vq.runDraw_cons); exact rfl; exact rfl; exact rfl; (try simp only [St.setS, St.slot, St.setO, St.obj, List.set_cons_succ, List.set_cons_zero, List.getD_cons_succ, List.getD_cons_zero, V.withLeaves, List.headD_cons, V.borrow, freeze1, borrows, borrow1, V.leaves, V.nextg, List.length_cons, List.length_nil, Nat.reduceAdd, Nat.reduceSub, layTup, obj1, splice, List.take_succ_cons, List.take_zero, List.drop_succ_cons, List.drop_zero, List.cons_append, List.nil_append, List.append_nil, Bool.false_eq_true, if_true, if_false, Bool.not_true, Bool.not_false, hadd]))
      | ((with_reducible apply Vq.vret); exact rfl)
      | ((with_reducible apply Vq.vskip); exact rfl)
      | ((with_reducible apply Vq.vexit); exact rfl)
      | ((with_reducible apply Vq.vregion); case hr => exact rfl)
      | ((with_reducible apply Vq.vdraw); case hr => exact rfl)
      | with_reducible apply Vq.vseq
      | with_reducible apply Vq.vblock
      | ((with_reducible apply Vq.vcond); exact rfl; dsimp only [Vq.pickC])
      | (dsimp only [Vq.afterSeq]; done)
      | ((with_reducible apply Vq.vab0); exact rfl)
      | ((with_reducible apply Vq.vab1); exact rfl)
      | ((with_reducible apply Vq.vabr); exact rfl)
      | ((with_reducible apply Vq.vabx); (· decide); exact rfl)
      | dsimp only [Vq.afterSeq])
  · exact rfl
theorem outa (B S want : List V) (ns : List Int) (i : Nat) (hi : ns.length ≤ i) : step cal its again 0 bodya (sta B (ns.map (V.int .u64)) S want i) = some (.exit 0, exa B (ns.map (V.int .u64)) S want i) := by
  have hlt : decide ((i : Int) < ((ns.map (V.int .u64)).length : Int)) = false := by simp; omega
  unfold bodya sta exa
  repeat' (first
      | with_reducible exact Vq.runOps_nil
      | ((with_reducible apply Vq.runOps_cons); exact rfl; (try simp only [St.setS, St.slot, St.setO, St.obj, List.set_cons_succ, List.set_cons_zero, List.getD_cons_succ, List.getD_cons_zero, V.withLeaves, List.headD_cons, V.borrow, freeze1, borrows, borrow1, V.leaves, V.nextg, List.length_cons, List.length_nil, Nat.reduceAdd, Nat.reduceSub, layTup, obj1, splice, List.take_succ_cons, List.take_zero, List.drop_succ_cons, List.drop_zero, List.cons_append, List.nil_append, List.append_nil, Bool.false_eq_true, if_true, if_false, Bool.not_true, Bool.not_false, hlt]))
      | with_reducible exact Vq.runDraw_nil
      | ((with_reducible apply Vq.runDraw_cons); exact rfl; exact rfl; exact rfl; (try simp only [St.setS, St.slot, St.setO, St.obj, List.set_cons_succ, List.set_cons_zero, List.getD_cons_succ, List.getD_cons_zero, V.withLeaves, List.headD_cons, V.borrow, freeze1, borrows, borrow1, V.leaves, V.nextg, List.length_cons, List.length_nil, Nat.reduceAdd, Nat.reduceSub, layTup, obj1, splice, List.take_succ_cons, List.take_zero, List.drop_succ_cons, List.drop_zero, List.cons_append, List.nil_append, List.append_nil, Bool.false_eq_true, if_true, if_false, Bool.not_true, Bool.not_false, hlt]))
      | ((with_reducible apply Vq.vret); exact rfl)
      | ((with_reducible apply Vq.vskip); exact rfl)
      | ((with_reducible apply Vq.vexit); exact rfl)
      | ((with_reducible apply Vq.vregion); case hr => exact rfl)
      | ((with_reducible apply Vq.vdraw); case hr => exact rfl)
      | with_reducible apply Vq.vseq
      | with_reducible apply Vq.vblock
      | ((with_reducible apply Vq.vcond); exact rfl; dsimp only [Vq.pickC])
      | (dsimp only [Vq.afterSeq]; done)
      | ((with_reducible apply Vq.vab0); exact rfl)
      | ((with_reducible apply Vq.vab1); exact rfl)
      | ((with_reducible apply Vq.vabr); exact rfl)
      | ((with_reducible apply Vq.vabx); (· decide); exact rfl)
      | dsimp only [Vq.afterSeq])
theorem loopa (G : VProg) (B : List V) (ns : List Int) (S : List V) (hns : ∀ n ∈ ns, 0 ≤ n ∧ n < 18446744073709551616) (hl : ns.length ≤ 1000)
    (h36 : ∀ n m, 0 ≤ n → n < 18446744073709551616 → 12 ≤ m → call G m 36 [.int .u64 n] [] = some (.xsl 0 1 (dg n), [])) : ∀ (j i m : Nat) (want : List V) (σ : St), i + j = ns.length → want.length + 20 * j + 20 ≤ 140737488355328 → (∀ x ∈ want, x.noslice = true) → 12 + j ≤ m → rebase? (some [0, 1, 2, 7, 31, 32, 33]) 0 σ = sta B (ns.map (V.int .u64)) S want i →
    step (call G m) (itersOf G) (exec G m) 0 (.loop (some [0, 1, 2, 7, 31, 32, 33]) bodya) σ = some (.exit 0, exa B (ns.map (V.int .u64)) S (want ++ dgs (ns.drop i)) ns.length)
  | 0, i, m, want, σ, hi, hb, hno, hm, hr => by
    refine step_loop_out hr ?_ (by intro e; cases e)
    obtain rfl : i = ns.length := by omega
    simp only [List.drop_length, dgs, List.flatMap_nil, List.append_nil]
    exact outa _ _ _ B S want ns _ (Nat.le_refl _)
  | j + 1, i, m, want, σ, hi, hb, hno, hm, hr => by
    cases m with
    | zero => omega
    | succ m =>
    have hn := hns ns[i] (List.getElem_mem (by omega))
    obtain ⟨r, h1, h2⟩ := rounda (call G (m + 1)) (itersOf G) (exec G (m + 1)) B S want ns i (by omega) hl (by omega) (h36 _ _ hn.1 hn.2 (by omega))
    have hd := dg_len ns[i]
    have h3 := loopa G B ns S hns hl h36 j (i + 1) m _ r (by omega) (by simp; omega) (noslice_app hno (noslice_dg _)) (by omega) h2
    refine step_loop hr h1 ?_
    rw [exec_succ, h3]
    rw [List.drop_eq_getElem_cons (show i < ns.length by omega)]
    simp only [dgs, List.flatMap_cons, List.append_assoc]
/-! ### the texts -/
def bodyb : VCode := (.seq (.region [{ dst := (some 45), op := .bin (.lss) (.tmp 44) (.tmp 43), guard := none, before := 0 }] false) (.seq (.cond (.tmp 45) (.skip) (.exit 2)) (.seq (.block 3 none (.seq (.region [{ dst := (some 46), op := .indexAddr none 1 (.tmp 42) (.tmp 44), guard := none, before := 0 }, { dst := (some 47), op := .load false 1 (.tmp 46), guard := none, before := 1 }, { dst := (some 11), op := .assign (.tmp 47), guard := none, before := 3 }] false) (.seq (.seq (.region [{ dst := (some 48), op := .move (.tmp 11), guard := none, before := 0 }, { dst := (some 49), op := .len (.str) (.tmp 48), guard := none, before := 1 }, { dst := (some 50), op := .bin (.gtr) (.tmp 49) (.val (.int .i64 300)), guard := none, before := 3 }] false) (.cond (.tmp 50) (.seq (.region [{ dst := (some 6), op := .assign (.val (.bool true)), guard := none, before := 0 }] false) (.ret)) (.skip))) (.region [{ dst := (some 51), op := .move (.tmp 7), guard := none, before := 0 }, { dst := (some 52), op := .move (.tmp 11), guard := none, before := 0 }, { dst := (some 53), op := .call true 37 0 [(.tmp 52)], guard := none, before := 2 }, { dst := (some 54), op := .append 1 1 (.tmp 51) (.tmp 53), guard := none, before := 7 }, { dst := (some 7), op := .assign (.tmp 54), guard := none, before := 15 }] false)))) (.region [{ dst := (some 55), op := .bin (.add) (.tmp 44) (.val (.int .i64 1)), guard := none, before := 0 }, { dst := (some 44), op := .move (.tmp 55), guard := none, before := 1 }] false))))
def stb (B N S want : List V) (i : Nat) : St :=
  { slots := (.isl 0 1 B :: .isl 0 1 N :: .isl 0 1 S :: .gone 0 :: .gone 0 :: .gone 0 :: .gone 0 :: .xsl 0 1 want :: .gone 0 :: .gone 0 :: .gone 0 :: .gone 0 :: .gone 0 :: .gone 0 :: .gone 0 :: .gone 0 :: .gone 0 :: .gone 0 :: .gone 0 :: .gone 0 :: .gone 0 :: .gone 0 :: .gone 0 :: .gone 0 :: .gone 0 :: .gone 0 :: .gone 0 :: .gone 0 :: .gone 0 :: .gone 0 :: .gone 0 :: .gone 0 :: .gone 0 :: .gone 0 :: .gone 0 :: .gone 0 :: .gone 0 :: .gone 0 :: .gone 0 :: .gone 0 :: .gone 0 :: .gone 0 :: .isl 0 1 S :: .int .i64 S.length :: .int .i64 i :: .gone 0 :: .gone 0 :: .gone 0 :: .gone 0 :: .gone 0 :: .gone 0 :: .gone 0 :: .gone 0 :: .gone 0 :: .gone 0 :: .gone 0 :: .gone 0 :: .gone 0 :: .gone 0 :: .gone 0 :: .gone 0 :: .gone 0 :: .gone 0 :: .gone 0 :: .gone 0 :: .gone 0 :: .gone 0 :: .gone 0 :: .gone 0 :: .gone 0 :: .gone 0 :: .gone 0 :: .gone 0 :: []), objs := [] }
def exb (B N S want : List V) (i : Nat) : St :=
  { slots := (.isl 0 1 B :: .isl 0 1 N :: .isl 0 1 S :: .gone 0 :: .gone 0 :: .gone 0 :: .gone 0 :: .xsl 0 1 want :: .gone 0 :: .gone 0 :: .gone 0 :: .gone 0 :: .gone 0 :: .gone 0 :: .gone 0 :: .gone 0 :: .gone 0 :: .gone 0 :: .gone 0 :: .gone 0 :: .gone 0 :: .gone 0 :: .gone 0 :: .gone 0 :: .gone 0 :: .gone 0 :: .gone 0 :: .gone 0 :: .gone 0 :: .gone 0 :: .gone 0 :: .gone 0 :: .gone 0 :: .gone 0 :: .gone 0 :: .gone 0 :: .gone 0 :: .gone 0 :: .gone 0 :: .gone 0 :: .gone 0 :: .gone 0 :: .isl 0 1 S :: .int .i64 S.length :: .int .i64 i :: .bool false :: .gone 0 :: .gone 0 :: .gone 0 :: .gone 0 :: .gone 0 :: .gone 0 :: .gone 0 :: .gone 0 :: .gone 0 :: .gone 0 :: .gone 0 :: .gone 0 :: .gone 0 :: .gone 0 :: .gone 0 :: .gone 0 :: .gone 0 :: .gone 0 :: .gone 0 :: .gone 0 :: .gone 0 :: .gone 0 :: .gone 0 :: .gone 0 :: .gone 0 :: .gone 0 :: .gone 0 :: []), objs := [] }
def reb (B N S want : List V) (i : Nat) (s : List UInt8) (ad : List V) : St :=
  { slots := (.isl 0 1 B :: .isl 0 1 N :: .isl 0 1 S :: .gone 0 :: .gone 0 :: .gone 0 :: .bool true :: .xsl 0 1 want :: .gone 0 :: .gone 0 :: .gone 0 :: .str s :: .gone 0 :: .gone 0 :: .gone 0 :: .gone 0 :: .gone 0 :: .gone 0 :: .gone 0 :: .gone 0 :: .gone 0 :: .gone 0 :: .gone 0 :: .gone 0 :: .gone 0 :: .gone 0 :: .gone 0 :: .gone 0 :: .gone 0 :: .gone 0 :: .gone 0 :: .gone 0 :: .gone 0 :: .gone 0 :: .gone 0 :: .gone 0 :: .gone 0 :: .gone 0 :: .gone 0 :: .gone 0 :: .gone 0 :: .gone 0 :: .isl 0 1 S :: .int .i64 S.length :: .int .i64 i :: .bool true :: .iptr [.str s] :: .str s :: .str s :: .int .i64 s.length :: .bool true :: .gone 0 :: .gone 0 :: .gone 0 :: .gone 0 :: .gone 0 :: .gone 0 :: .gone 0 :: .gone 0 :: .gone 0 :: .gone 0 :: .gone 0 :: .gone 0 :: .gone 0 :: .gone 0 :: .gone 0 :: .gone 0 :: .gone 0 :: .gone 0 :: .gone 0 :: .gone 0 :: .gone 0 :: .gone 0 :: []), objs := [] }
theorem roundb (B N want : List V) (ss : List (List UInt8)) (i : Nat) (hi : i < ss.length) (hss : ss.length ≤ 1000) (hs : decide (((ss[i]).length : Int) > 300) = false) (hb : want.length + 1020 ≤ 140737488355328)
    (h37 : cal 37 [.str ss[i]] [] = some (.xsl 0 1 (tx ss[i]), [])) :
    ∃ s, step cal its again 0 bodyb (stb B N (ss.map V.str) want i) = some (.normal, s) ∧ rebase? (some [0, 1, 2, 7, 42, 43, 44]) 0 s = stb B N (ss.map V.str) (want ++ tx ss[i]) (i + 1) := by
  have hx : (ss.map V.str)[((i : Int)).toNat]? = some (.str ss[i]) := by simp [hi]
  have hlt : decide ((i : Int) < ((ss.map V.str).length : Int)) = true := by simp; omega
  have hadd := inc_i64 i (by omega)
  have hns := noslice_tx ss[i]
  have hdl := tx_len ss[i] (by have := of_decide_eq_false hs; omega)
  unfold bodyb stb
  apply vround
  · (with_reducible apply Vq.vseq)
    · repeat' (first
      | with_reducible exact Vq.runOps_nil
      | ((with_reducible apply Vq.runOps_cons); exact rfl; (try simp only [St.setS, St.slot, St.setO, St.obj, List.set_cons_succ, List.set_cons_zero, List.getD_cons_succ, List.getD_cons_zero, V.withLeaves, List.headD_cons, V.borrow, freeze1, borrows, borrow1, V.leaves, V.nextg, List.length_cons, List.length_nil, Nat.reduceAdd, Nat.reduceSub, layTup, obj1, splice, List.take_succ_cons, List.take_zero, List.drop_succ_cons, List.drop_zero, List.cons_append, List.nil_append, List.append_nil, Bool.false_eq_true, if_true, if_false, Bool.not_true, Bool.not_false, hlt]))
      | with_reducible exact Vq.runDraw_nil
      | ((with_reducible apply Vq.runDraw_cons); exact rfl; exact rfl; exact rfl; (try simp only [St.setS, St.slot, St.setO, St.obj, List.set_cons_succ, List.set_cons_zero, List.getD_cons_succ, List.getD_cons_zero, V.withLeaves, List.headD_cons, V.borrow, freeze1, borrows, borrow1, V.leaves, V.nextg, List.length_cons, List.length_nil, Nat.reduceAdd, Nat.reduceSub, layTup, obj1, splice, List.take_succ_cons, List.take_zero, List.drop_succ_cons, List.drop_zero, List.cons_append, List.nil_append, List.append_nil, Bool.false_eq_true, if_true, if_false, Bool.not_true, Bool.not_false, hlt]))
      | ((with_reducible apply Vq.vret); exact rfl)
      | ((with_reducible apply Vq.vskip); exact rfl)
      | ((with_reducible apply Vq.vexit); exact rfl)
      | ((with_reducible apply Vq.vregion); case hr => exact rfl)
      | ((with_reducible apply Vq.vdraw); case hr => exact rfl)
      | with_reducible apply Vq.vseq
      | with_reducible apply Vq.vblock
      | ((with_reducible apply Vq.vcond); exact rfl; dsimp only [Vq.pickC])
      | (dsimp only [Vq.afterSeq]; done)
      | ((with_reducible apply Vq.vab0); exact rfl)
      | ((with_reducible apply Vq.vab1); exact rfl)
      | ((with_reducible apply Vq.vabr); exact rfl)
      | ((with_reducible apply Vq.vabx); (· decide); exact rfl)
      | dsimp only [Vq.afterSeq])
    dsimp only [afterSeq]
    (with_reducible apply Vq.vseq)
    · repeat' (first
      | with_reducible exact Vq.runOps_nil
      | ((with_reducible apply Vq.runOps_cons); exact rfl; (try simp only [St.setS, St.slot, St.setO, St.obj, List.set_cons_succ, List.set_cons_zero, List.getD_cons_succ, List.getD_cons_zero, V.withLeaves, List.headD_cons, V.borrow, freeze1, borrows, borrow1, V.leaves, V.nextg, List.length_cons, List.length_nil, Nat.reduceAdd, Nat.reduceSub, layTup, obj1, splice, List.take_succ_cons, List.take_zero, List.drop_succ_cons, List.drop_zero, List.cons_append, List.nil_append, List.append_nil, Bool.false_eq_true, if_true, if_false, Bool.not_true, Bool.not_false, hlt]))
      | with_reducible exact Vq.runDraw_nil
      | ((with_reducible apply Vq.runDraw_cons); exact rfl; exact rfl; exact rfl; (try simp only [St.setS, St.slot, St.setO, St.obj, List.set_cons_succ, List.set_cons_zero, List.getD_cons_succ, List.getD_cons_zero, V.withLeaves, List.headD_cons, V.borrow, freeze1, borrows, borrow1, V.leaves, V.nextg, List.length_cons, List.length_nil, Nat.reduceAdd, Nat.reduceSub, layTup, obj1, splice, List.take_succ_cons, List.take_zero, List.drop_succ_cons, List.drop_zero, List.cons_append, List.nil_append, List.append_nil, Bool.false_eq_true, if_true, if_false, Bool.not_true, Bool.not_false, hlt]))
      | ((with_reducible apply Vq.vret); exact rfl)
      | ((with_reducible apply Vq.vskip); exact rfl)
      | ((with_reducible apply Vq.vexit); exact rfl)
      | ((with_reducible apply Vq.vregion); case hr => exact rfl)
      | ((with_reducible apply Vq.vdraw); case hr => exact rfl)
      | with_reducible apply Vq.vseq
      | with_reducible apply Vq.vblock
      | ((with_reducible apply Vq.vcond); exact rfl; dsimp only [Vq.pickC])
      | (dsimp only [Vq.afterSeq]; done)
      | ((with_reducible apply Vq.vab0); exact rfl)
      | ((with_reducible apply Vq.vab1); exact rfl)
      | ((with_reducible apply Vq.vabr); exact rfl)
      | ((with_reducible apply Vq.vabx); (· decide); exact rfl)
      | dsimp only [Vq.afterSeq])
    dsimp only [afterSeq]
    (with_reducible apply Vq.vseq)
    · (with_reducible apply vblock)
      · (with_reducible apply Vq.vseq)
        · (with_reducible apply Vq.vregion); case hr => exact rfl
          (with_reducible apply Vq.runOps_cons)
          · apply vidx rfl rfl (.inl rfl) (by omega) hx
            exact rfl
          (try simp only [St.setS, St.slot, St.setO, St.obj, List.set_cons_succ, List.set_cons_zero, List.getD_cons_succ, List.getD_cons_zero, V.withLeaves, List.headD_cons, V.borrow, freeze1, borrows, borrow1, V.leaves, V.nextg, List.length_cons, List.length_nil, Nat.reduceAdd, Nat.reduceSub, layTup, obj1, splice, List.take_succ_cons, List.take_zero, List.drop_succ_cons, List.drop_zero, List.cons_append, List.nil_append, List.append_nil, Bool.false_eq_true, if_true, if_false, Bool.not_true, Bool.not_false])
          repeat' (first
      | with_reducible exact Vq.runOps_nil
      | ((with_reducible apply Vq.runOps_cons); exact rfl; (try simp only [St.setS, St.slot, St.setO, St.obj, List.set_cons_succ, List.set_cons_zero, List.getD_cons_succ, List.getD_cons_zero, V.withLeaves, List.headD_cons, V.borrow, freeze1, borrows, borrow1, V.leaves, V.nextg, List.length_cons, List.length_nil, Nat.reduceAdd, Nat.reduceSub, layTup, obj1, splice, List.take_succ_cons, List.take_zero, List.drop_succ_cons, List.drop_zero, List.cons_append, List.nil_append, List.append_nil, Bool.false_eq_true, if_true, if_false, Bool.not_true, Bool.not_false]))
      | with_reducible exact Vq.runDraw_nil
      | ((with_reducible apply Vq.runDraw_cons); exact rfl; exact rfl; exact rfl; (try simp only [St.setS, St.slot, St.setO, St.obj, List.set_cons_succ, List.set_cons_zero, List.getD_cons_succ, List.getD_cons_zero, V.withLeaves, List.headD_cons, V.borrow, freeze1, borrows, borrow1, V.leaves, V.nextg, List.length_cons, List.length_nil, Nat.reduceAdd, Nat.reduceSub, layTup, obj1, splice, List.take_succ_cons, List.take_zero, List.drop_succ_cons, List.drop_zero, List.cons_append, List.nil_append, List.append_nil, Bool.false_eq_true, if_true, if_false, Bool.not_true, Bool.not_false]))
      | ((with_reducible apply Vq.vret); exact rfl)
      | ((with_reducible apply Vq.vskip); exact rfl)
      | ((with_reducible apply Vq.vexit); exact rfl)
      | ((with_reducible apply Vq.vregion); case hr => exact rfl)
      | ((with_reducible apply Vq.vdraw); case hr => exact rfl)
      | with_reducible apply Vq.vseq
      | with_reducible apply Vq.vblock
      | ((with_reducible apply Vq.vcond); exact rfl; dsimp only [Vq.pickC])
      | (dsimp only [Vq.afterSeq]; done)
      | ((with_reducible apply Vq.vab0); exact rfl)
      | ((with_reducible apply Vq.vab1); exact rfl)
      | ((with_reducible apply Vq.vabr); exact rfl)
      | ((with_reducible apply Vq.vabx); (· decide); exact rfl)
      | dsimp only [Vq.afterSeq])
        dsimp only [afterSeq]
        repeat' (first
      | with_reducible exact Vq.runOps_nil
      | ((with_reducible apply Vq.runOps_cons); exact rfl; (try simp only [St.setS, St.slot, St.setO, St.obj, List.set_cons_succ, List.set_cons_zero, List.getD_cons_succ, List.getD_cons_zero, V.withLeaves, List.headD_cons, V.borrow, freeze1, borrows, borrow1, V.leaves, V.nextg, List.length_cons, List.length_nil, Nat.reduceAdd, Nat.reduceSub, layTup, obj1, splice, List.take_succ_cons, List.take_zero, List.drop_succ_cons, List.drop_zero, List.cons_append, List.nil_append, List.append_nil, Bool.false_eq_true, if_true, if_false, Bool.not_true, Bool.not_false, hs]))
      | ((with_reducible apply Vq.runOps_cons); (apply Vq.vcallL; exact rfl; exact fun _ => rfl; exact fun _ => rfl; exact fun _ => rfl; exact fun _ => rfl; decide; exact rfl; exact rfl; (first | exact h37); exact rfl); (try simp only [St.setS, St.slot, St.setO, St.obj, List.set_cons_succ, List.set_cons_zero, List.getD_cons_succ, List.getD_cons_zero, V.withLeaves, List.headD_cons, V.borrow, freeze1, borrows, borrow1, V.leaves, V.nextg, List.length_cons, List.length_nil, Nat.reduceAdd, Nat.reduceSub, layTup, obj1, splice, List.take_succ_cons, List.take_zero, List.drop_succ_cons, List.drop_zero, List.cons_append, List.nil_append, List.append_nil, Bool.false_eq_true, if_true, if_false, Bool.not_true, Bool.not_false, hs]))
      | ((with_reducible apply Vq.runOps_cons); (apply Vq.vcallA; exact rfl; exact fun _ => rfl; exact rfl; (first | exact h37); (first | exact rfl | (simp [Vq.V.apart, Vq.V.leaves, Vq.V.noslice]; done) | (simp [Vq.V.apart, Vq.V.leaves, Vq.V.noslice]; assumption)); exact rfl); (try simp only [St.setS, St.slot, St.setO, St.obj, List.set_cons_succ, List.set_cons_zero, List.getD_cons_succ, List.getD_cons_zero, V.withLeaves, List.headD_cons, V.borrow, freeze1, borrows, borrow1, V.leaves, V.nextg, List.length_cons, List.length_nil, Nat.reduceAdd, Nat.reduceSub, layTup, obj1, splice, List.take_succ_cons, List.take_zero, List.drop_succ_cons, List.drop_zero, List.cons_append, List.nil_append, List.append_nil, Bool.false_eq_true, if_true, if_false, Bool.not_true, Bool.not_false, hs]))
      | ((with_reducible apply Vq.runOps_cons); (apply Vq.run_asks; (· simp); (try simp only [List.take_length, List.drop_zero]); apply Vq.run_if trivial; unfold Vq.sHome; simp only [Vq.Prog.run]; apply Vq.run_asks; (· exact Nat.zero_lt_one); apply Vq.run_asks; (· exact ⟨trivial, by (simp; omega)⟩); exact rfl); (try simp only [St.setS, St.slot, St.setO, St.obj, List.set_cons_succ, List.set_cons_zero, List.getD_cons_succ, List.getD_cons_zero, V.withLeaves, List.headD_cons, V.borrow, freeze1, borrows, borrow1, V.leaves, V.nextg, List.length_cons, List.length_nil, Nat.reduceAdd, Nat.reduceSub, layTup, obj1, splice, List.take_succ_cons, List.take_zero, List.drop_succ_cons, List.drop_zero, List.cons_append, List.nil_append, List.append_nil, Bool.false_eq_true, if_true, if_false, Bool.not_true, Bool.not_false, hs]); (try simp only [List.take_length, List.drop_zero]))
      | ((with_reducible apply Vq.runOps_cons); (apply Vq.run_asks; (· exact rfl); apply Vq.run_asks; (· exact ⟨rfl, by (simp; omega)⟩); exact rfl); (try simp only [St.setS, St.slot, St.setO, St.obj, List.set_cons_succ, List.set_cons_zero, List.getD_cons_succ, List.getD_cons_zero, V.withLeaves, List.headD_cons, V.borrow, freeze1, borrows, borrow1, V.leaves, V.nextg, List.length_cons, List.length_nil, Nat.reduceAdd, Nat.reduceSub, layTup, obj1, splice, List.take_succ_cons, List.take_zero, List.drop_succ_cons, List.drop_zero, List.cons_append, List.nil_append, List.append_nil, Bool.false_eq_true, if_true, if_false, Bool.not_true, Bool.not_false, hs]))
      | ((with_reducible apply Vq.runOps_cons); (apply Vq.run_asks; (· exact ⟨rfl, by (simp; omega)⟩); exact rfl); (try simp only [St.setS, St.slot, St.setO, St.obj, List.set_cons_succ, List.set_cons_zero, List.getD_cons_succ, List.getD_cons_zero, V.withLeaves, List.headD_cons, V.borrow, freeze1, borrows, borrow1, V.leaves, V.nextg, List.length_cons, List.length_nil, Nat.reduceAdd, Nat.reduceSub, layTup, obj1, splice, List.take_succ_cons, List.take_zero, List.drop_succ_cons, List.drop_zero, List.cons_append, List.nil_append, List.append_nil, Bool.false_eq_true, if_true, if_false, Bool.not_true, Bool.not_false, hs]))
      | with_reducible exact Vq.runDraw_nil
      | ((with_reducible apply Vq.runDraw_cons); exact rfl; exact rfl; exact rfl; (try simp only [St.setS, St.slot, St.setO, St.obj, List.set_cons_succ, List.set_cons_zero, List.getD_cons_succ, List.getD_cons_zero, V.withLeaves, List.headD_cons, V.borrow, freeze1, borrows, borrow1, V.leaves, V.nextg, List.length_cons, List.length_nil, Nat.reduceAdd, Nat.reduceSub, layTup, obj1, splice, List.take_succ_cons, List.take_zero, List.drop_succ_cons, List.drop_zero, List.cons_append, List.nil_append, List.append_nil, Bool.false_eq_true, if_true, if_false, Bool.not_true, Bool.not_false, hs]))
      | ((with_reducible apply Vq.vret); exact rfl)
      | ((with_reducible apply Vq.vskip); exact rfl)
      | ((with_reducible apply Vq.vexit); exact rfl)
      | ((with_reducible apply Vq.vregion); case hr => exact rfl)
      | ((with_reducible apply Vq.vdraw); case hr => exact rfl)
      | with_reducible apply Vq.vseq
      | with_reducible apply Vq.vblock
      | ((with_reducible apply Vq.vcond); exact rfl; dsimp only [Vq.pickC])
      | (dsimp only [Vq.afterSeq]; done)
      | ((with_reducible apply Vq.vab0); exact rfl)
      | ((with_reducible apply Vq.vab1); exact rfl)
      | ((with_reducible apply Vq.vabr); exact rfl)
      | ((with_reducible apply Vq.vabx); (· decide); exact rfl)
      | dsimp only [Vq.afterSeq])
      repeat' (first
      | with_reducible exact Vq.runOps_nil
      | ((with_reducible apply Vq.runOps_cons); exact rfl; (try simp only [St.setS, St.slot, St.setO, St.obj, List.set_cons_succ, List.set_cons_zero, List.getD_cons_succ, List.getD_cons_zero, V.withLeaves, List.headD_cons, V.borrow, freeze1, borrows, borrow1, V.leaves, V.nextg, List.length_cons, List.length_nil, Nat.reduceAdd, Nat.reduceSub, layTup, obj1, splice, List.take_succ_cons, List.take_zero, List.drop_succ_cons, List.drop_zero, List.cons_append, List.nil_append, List.append_nil, Bool.false_eq_true, if_true, if_false, Bool.not_true, Bool.not_false]))
      | with_reducible exact Vq.runDraw_nil
      | ((with_reducible apply Vq.runDraw_cons); exact rfl; exact rfl; exact rfl; (try simp only [St.setS, St.slot, St.setO, St.obj, List.set_cons_succ, List.set_cons_zero, List.getD_cons_succ, List.getD_cons_zero, V.withLeaves, List.headD_cons, V.borrow, freeze1, borrows, borrow1, V.leaves, V.nextg, List.length_cons, List.length_nil, Nat.reduceAdd, Nat.reduceSub, layTup, obj1, splice, List.take_succ_cons, List.take_zero, List.drop_succ_cons, List.drop_zero, List.cons_append, List.nil_append, List.append_nil, Bool.false_eq_true, if_true, if_false, Bool.not_true, Bool.not_false]))
      | ((with_reducible apply Vq.vret); exact rfl)
      | ((with_reducible apply Vq.vskip); exact rfl)
      | ((with_reducible apply Vq.vexit); exact rfl)
      | ((with_reducible apply Vq.vregion); case hr => exact rfl)
      | ((with_reducible apply Vq.vdraw); case hr => exact rfl)
      | with_reducible apply Vq.vseq
      | with_reducible apply Vq.vblock
      | ((with_reducible apply Vq.vcond); exact rfl; dsimp only [Vq.pickC])
      | (dsimp only [Vq.afterSeq]; done)
      | ((with_reducible apply Vq.vab0); exact rfl)
      | ((with_reducible apply Vq.vab1); exact rfl)
      | ((with_reducible apply Vq.vabr); exact rfl)
      | ((with_reducible apply Vq.vabx); (· decide); exact rfl)
      | dsimp only [Vq.afterSeq])
    dsimp only [afterSeq]
    repeat' (first
      | with_reducible exact Vq.runOps_nil
      | ((with_reducible apply Vq.runOps_cons); exact rfl; (try simp only [St.setS, St.slot, St.setO, St.obj, List.set_cons_succ, List.set_cons_zero, List.getD_cons_succ, List.getD_cons_zero, V.withLeaves, List.headD_cons, V.borrow, freeze1, borrows, borrow1, V.leaves, V.nextg, List.length_cons, List.length_nil, Nat.reduceAdd, Nat.reduceSub, layTup, obj1, splice, List.take_succ_cons, List.take_zero, List.drop_succ_cons, List.drop_zero, List.cons_append, List.nil_append, List.append_nil, Bool.false_eq_true, if_true, if_false, Bool.not_true, Bool.not_false, hadd]))
      | with_reducible exact Vq.runDraw_nil
      | ((with_reducible apply Vq.runDraw_cons); exact rfl; exact rfl; exact rfl; (try simp only [St.setS, St.slot, St.setO, St.obj, List.set_cons_succ, List.set_cons_zero, List.getD_cons_succ, List.getD_cons_zero, V.withLeaves, List.headD_cons, V.borrow, freeze1, borrows, borrow1, V.leaves, V.nextg, List.length_cons, List.length_nil, Nat.reduceAdd, Nat.reduceSub, layTup, obj1, splice, List.take_succ_cons, List.take_zero, List.drop_succ_cons, List.drop_zero, List.cons_append, List.nil_append, List.append_nil, Bool.false_eq_true, if_true, if_false, Bool.not_true, Bool.not_false, hadd]))
      | ((with_reducible apply Vq.vret); exact rfl)
      | ((with_reducible apply Vq.vskip); exact rfl)
      | ((with_reducible apply Vq.vexit); exact rfl)
      | ((with_reducible apply Vq.vregion); case hr => exact rfl)
      | ((with_reducible apply Vq.vdraw); case hr => exact rfl)
      | with_reducible apply Vq.vseq
      | with_reducible apply Vq.vblock
      | ((with_reducible apply Vq.vcond); exact rfl; dsimp only [Vq.pickC])
      | (dsimp only [Vq.afterSeq]; done)
      | ((with_reducible apply Vq.vab0); exact rfl)
      | ((with_reducible apply Vq.vab1); exact rfl)
      | ((with_reducible apply Vq.vabr); exact rfl)
      | ((with_reducible apply Vq.vabx); (· decide); exact rfl)
      | dsimp only [Vq.afterSeq])
  · exact rfl
theorem retb (B N want : List V) (ss : List (List UInt8)) (i : Nat) (hi : i < ss.length) (hss : ss.length ≤ 1000) (hs : decide (((ss[i]).length : Int) > 300) = true) :
    step cal its again 0 bodyb (stb B N (ss.map V.str) want i) = some (.ret, reb B N (ss.map V.str) want i ss[i] []) := by
  have hx : (ss.map V.str)[((i : Int)).toNat]? = some (.str ss[i]) := by simp [hi]
  have hlt : decide ((i : Int) < ((ss.map V.str).length : Int)) = true := by simp; omega
  unfold bodyb stb reb
  (with_reducible apply Vq.vseq)
  · repeat' (first
      | with_reducible exact Vq.runOps_nil
      | ((with_reducible apply Vq.runOps_cons); exact rfl; (try simp only [St.setS, St.slot, St.setO, St.obj, List.set_cons_succ, List.set_cons_zero, List.getD_cons_succ, List.getD_cons_zero, V.withLeaves, List.headD_cons, V.borrow, freeze1, borrows, borrow1, V.leaves, V.nextg, List.length_cons, List.length_nil, Nat.reduceAdd, Nat.reduceSub, layTup, obj1, splice, List.take_succ_cons, List.take_zero, List.drop_succ_cons, List.drop_zero, List.cons_append, List.nil_append, List.append_nil, Bool.false_eq_true, if_true, if_false, Bool.not_true, Bool.not_false, hlt]))
      | with_reducible exact Vq.runDraw_nil
      | ((with_reducible apply Vq.runDraw_cons); exact rfl; exact rfl; exact rfl; (try simp only [St.setS, St.slot, St.setO, St.obj, List.set_cons_succ, List.set_cons_zero, List.getD_cons_succ, List.getD_cons_zero, V.withLeaves, List.headD_cons, V.borrow, freeze1, borrows, borrow1, V.leaves, V.nextg, List.length_cons, List.length_nil, Nat.reduceAdd, Nat.reduceSub, layTup, obj1, splice, List.take_succ_cons, List.take_zero, List.drop_succ_cons, List.drop_zero, List.cons_append, List.nil_append, List.append_nil, Bool.false_eq_true, if_true, if_false, Bool.not_true, Bool.not_false, hlt]))
      | ((with_reducible apply Vq.vret); exact rfl)
      | ((with_reducible apply Vq.vskip); exact rfl)
      | ((with_reducible apply Vq.vexit); exact rfl)
      | ((with_reducible apply Vq.vregion); case hr => exact rfl)
      | ((with_reducible apply Vq.vdraw); case hr => exact rfl)
      | with_reducible apply Vq.vseq
      | with_reducible apply Vq.vblock
      | ((with_reducible apply Vq.vcond); exact rfl; dsimp only [Vq.pickC])
      | (dsimp only [Vq.afterSeq]; done)
      | ((with_reducible apply Vq.vab0); exact rfl)
      | ((with_reducible apply Vq.vab1); exact rfl)
      | ((with_reducible apply Vq.vabr); exact rfl)
      | ((with_reducible apply Vq.vabx); (· decide); exact rfl)
      | dsimp only [Vq.afterSeq])
  dsimp only [afterSeq]
  (with_reducible apply Vq.vseq)
  · repeat' (first
      | with_reducible exact Vq.runOps_nil
      | ((with_reducible apply Vq.runOps_cons); exact rfl; (try simp only [St.setS, St.slot, St.setO, St.obj, List.set_cons_succ, List.set_cons_zero, List.getD_cons_succ, List.getD_cons_zero, V.withLeaves, List.headD_cons, V.borrow, freeze1, borrows, borrow1, V.leaves, V.nextg, List.length_cons, List.length_nil, Nat.reduceAdd, Nat.reduceSub, layTup, obj1, splice, List.take_succ_cons, List.take_zero, List.drop_succ_cons, List.drop_zero, List.cons_append, List.nil_append, List.append_nil, Bool.false_eq_true, if_true, if_false, Bool.not_true, Bool.not_false, hlt]))
      | with_reducible exact Vq.runDraw_nil
      | ((with_reducible apply Vq.runDraw_cons); exact rfl; exact rfl; exact rfl; (try simp only [St.setS, St.slot, St.setO, St.obj, List.set_cons_succ, List.set_cons_zero, List.getD_cons_succ, List.getD_cons_zero, V.withLeaves, List.headD_cons, V.borrow, freeze1, borrows, borrow1, V.leaves, V.nextg, List.length_cons, List.length_nil, Nat.reduceAdd, Nat.reduceSub, layTup, obj1, splice, List.take_succ_cons, List.take_zero, List.drop_succ_cons, List.drop_zero, List.cons_append, List.nil_append, List.append_nil, Bool.false_eq_true, if_true, if_false, Bool.not_true, Bool.not_false, hlt]))
      | ((with_reducible apply Vq.vret); exact rfl)
      | ((with_reducible apply Vq.vskip); exact rfl)
      | ((with_reducible apply Vq.vexit); exact rfl)
      | ((with_reducible apply Vq.vregion); case hr => exact rfl)
      | ((with_reducible apply Vq.vdraw); case hr => exact rfl)
      | with_reducible apply Vq.vseq
      | with_reducible apply Vq.vblock
      | ((with_reducible apply Vq.vcond); exact rfl; dsimp only [Vq.pickC])
      | (dsimp only [Vq.afterSeq]; done)
      | ((with_reducible apply Vq.vab0); exact rfl)
      | ((with_reducible apply Vq.vab1); exact rfl)
      | ((with_reducible apply Vq.vabr); exact rfl)
      | ((with_reducible apply Vq.vabx); (· decide); exact rfl)
      | dsimp only [Vq.afterSeq])
  dsimp only [afterSeq]
  (with_reducible apply Vq.vseq)
  · (with_reducible apply vblock)
    · (with_reducible apply Vq.vseq)
      · (with_reducible apply Vq.vregion); case hr => exact rfl
        (with_reducible apply Vq.runOps_cons)
        · apply vidx rfl rfl (.inl rfl) (by omega) hx
          exact rfl
        (try simp only [St.setS, St.slot, St.setO, St.obj, List.set_cons_succ, List.set_cons_zero, List.getD_cons_succ, List.getD_cons_zero, V.withLeaves, List.headD_cons, V.borrow, freeze1, borrows, borrow1, V.leaves, V.nextg, List.length_cons, List.length_nil, Nat.reduceAdd, Nat.reduceSub, layTup, obj1, splice, List.take_succ_cons, List.take_zero, List.drop_succ_cons, List.drop_zero, List.cons_append, List.nil_append, List.append_nil, Bool.false_eq_true, if_true, if_false, Bool.not_true, Bool.not_false])
        repeat' (first
      | with_reducible exact Vq.runOps_nil
      | ((with_reducible apply Vq.runOps_cons); exact rfl; (try simp only [St.setS, St.slot, St.setO, St.obj, List.set_cons_succ, List.set_cons_zero, List.getD_cons_succ, List.getD_cons_zero, V.withLeaves, List.headD_cons, V.borrow, freeze1, borrows, borrow1, V.leaves, V.nextg, List.length_cons, List.length_nil, Nat.reduceAdd, Nat.reduceSub, layTup, obj1, splice, List.take_succ_cons, List.take_zero, List.drop_succ_cons, List.drop_zero, List.cons_append, List.nil_append, List.append_nil, Bool.false_eq_true, if_true, if_false, Bool.not_true, Bool.not_false]))
      | with_reducible exact Vq.runDraw_nil
      | ((with_reducible apply Vq.runDraw_cons); exact rfl; exact rfl; exact rfl; (try simp only [St.setS, St.slot, St.setO, St.obj, List.set_cons_succ, List.set_cons_zero, List.getD_cons_succ, List.getD_cons_zero, V.withLeaves, List.headD_cons, V.borrow, freeze1, borrows, borrow1, V.leaves, V.nextg, List.length_cons, List.length_nil, Nat.reduceAdd, Nat.reduceSub, layTup, obj1, splice, List.take_succ_cons, List.take_zero, List.drop_succ_cons, List.drop_zero, List.cons_append, List.nil_append, List.append_nil, Bool.false_eq_true, if_true, if_false, Bool.not_true, Bool.not_false]))
      | ((with_reducible apply Vq.vret); exact rfl)
      | ((with_reducible apply Vq.vskip); exact rfl)
      | ((with_reducible apply Vq.vexit); exact rfl)
      | ((with_reducible apply Vq.vregion); case hr => exact rfl)
      | ((with_reducible apply Vq.vdraw); case hr => exact rfl)
      | with_reducible apply Vq.vseq
      | with_reducible apply Vq.vblock
      | ((with_reducible apply Vq.vcond); exact rfl; dsimp only [Vq.pickC])
      | (dsimp only [Vq.afterSeq]; done)
      | ((with_reducible apply Vq.vab0); exact rfl)
      | ((with_reducible apply Vq.vab1); exact rfl)
      | ((with_reducible apply Vq.vabr); exact rfl)
      | ((with_reducible apply Vq.vabx); (· decide); exact rfl)
      | dsimp only [Vq.afterSeq])
      dsimp only [afterSeq]
      repeat' (first
      | with_reducible exact Vq.runOps_nil
      | ((with_reducible apply Vq.runOps_cons); exact rfl; (try simp only [St.setS, St.slot, St.setO, St.obj, List.set_cons_succ, List.set_cons_zero, List.getD_cons_succ, List.getD_cons_zero, V.withLeaves, List.headD_cons, V.borrow, freeze1, borrows, borrow1, V.leaves, V.nextg, List.length_cons, List.length_nil, Nat.reduceAdd, Nat.reduceSub, layTup, obj1, splice, List.take_succ_cons, List.take_zero, List.drop_succ_cons, List.drop_zero, List.cons_append, List.nil_append, List.append_nil, Bool.false_eq_true, if_true, if_false, Bool.not_true, Bool.not_false, hs]))
      | with_reducible exact Vq.runDraw_nil
      | ((with_reducible apply Vq.runDraw_cons); exact rfl; exact rfl; exact rfl; (try simp only [St.setS, St.slot, St.setO, St.obj, List.set_cons_succ, List.set_cons_zero, List.getD_cons_succ, List.getD_cons_zero, V.withLeaves, List.headD_cons, V.borrow, freeze1, borrows, borrow1, V.leaves, V.nextg, List.length_cons, List.length_nil, Nat.reduceAdd, Nat.reduceSub, layTup, obj1, splice, List.take_succ_cons, List.take_zero, List.drop_succ_cons, List.drop_zero, List.cons_append, List.nil_append, List.append_nil, Bool.false_eq_true, if_true, if_false, Bool.not_true, Bool.not_false, hs]))
      | ((with_reducible apply Vq.vret); exact rfl)
      | ((with_reducible apply Vq.vskip); exact rfl)
      | ((with_reducible apply Vq.vexit); exact rfl)
      | ((with_reducible apply Vq.vregion); case hr => exact rfl)
      | ((with_reducible apply Vq.vdraw); case hr => exact rfl)
      | with_reducible apply Vq.vseq
      | with_reducible apply Vq.vblock
      | ((with_reducible apply Vq.vcond); exact rfl; dsimp only [Vq.pickC])
      | (dsimp only [Vq.afterSeq]; done)
      | ((with_reducible apply Vq.vab0); exact rfl)
      | ((with_reducible apply Vq.vab1); exact rfl)
      | ((with_reducible apply Vq.vabr); exact rfl)
      | ((with_reducible apply Vq.vabx); (· decide); exact rfl)
      | dsimp only [Vq.afterSeq])
    repeat' (first
      | with_reducible exact Vq.runOps_nil
      | ((with_reducible apply Vq.runOps_cons); exact rfl; (try simp only [St.setS, St.slot, St.setO, St.obj, List.set_cons_succ, List.set_cons_zero, List.getD_cons_succ, List.getD_cons_zero, V.withLeaves, List.headD_cons, V.borrow, freeze1, borrows, borrow1, V.leaves, V.nextg, List.length_cons, List.length_nil, Nat.reduceAdd, Nat.reduceSub, layTup, obj1, splice, List.take_succ_cons, List.take_zero, List.drop_succ_cons, List.drop_zero, List.cons_append, List.nil_append, List.append_nil, Bool.false_eq_true, if_true, if_false, Bool.not_true, Bool.not_false]))
      | with_reducible exact Vq.runDraw_nil
      | ((with_reducible apply Vq.runDraw_cons); exact rfl; exact rfl; exact rfl; (try simp only [St.setS, St.slot, St.setO, St.obj, List.set_cons_succ, List.set_cons_zero, List.getD_cons_succ, List.getD_cons_zero, V.withLeaves, List.headD_cons, V.borrow, freeze1, borrows, borrow1, V.leaves, V.nextg, List.length_cons, List.length_nil, Nat.reduceAdd, Nat.reduceSub, layTup, obj1, splice, List.take_succ_cons, List.take_zero, List.drop_succ_cons, List.drop_zero, List.cons_append, List.nil_append, List.append_nil, Bool.false_eq_true, if_true, if_false, Bool.not_true, Bool.not_false]))
      | ((with_reducible apply Vq.vret); exact rfl)
      | ((with_reducible apply Vq.vskip); exact rfl)
      | ((with_reducible apply Vq.vexit); exact rfl)
      | ((with_reducible apply Vq.vregion); case hr => exact rfl)
      | ((with_reducible apply Vq.vdraw); case hr => exact rfl)
      | with_reducible apply Vq.vseq
      | with_reducible apply Vq.vblock
      | ((with_reducible apply Vq.vcond); exact rfl; dsimp only [Vq.pickC])
      | (dsimp only [Vq.afterSeq]; done)
      | ((with_reducible apply Vq.vab0); exact rfl)
      | ((with_reducible apply Vq.vab1); exact rfl)
      | ((with_reducible apply Vq.vabr); exact rfl)
      | ((with_reducible apply Vq.vabx); (· decide); exact rfl)
      | dsimp only [Vq.afterSeq])
  dsimp only [afterSeq]
  exact rfl
theorem outb (B N want : List V) (ss : List (List UInt8)) (i : Nat) (hi : ss.length ≤ i) : step cal its again 0 bodyb (stb B N (ss.map V.str) want i) = some (.exit 2, exb B N (ss.map V.str) want i) := by
  have hlt : decide ((i : Int) < ((ss.map V.str).length : Int)) = false := by simp; omega
  unfold bodyb stb exb
  repeat' (first
      | with_reducible exact Vq.runOps_nil
      | ((with_reducible apply Vq.runOps_cons); exact rfl; (try simp only [St.setS, St.slot, St.setO, St.obj, List.set_cons_succ, List.set_cons_zero, List.getD_cons_succ, List.getD_cons_zero, V.withLeaves, List.headD_cons, V.borrow, freeze1, borrows, borrow1, V.leaves, V.nextg, List.length_cons, List.length_nil, Nat.reduceAdd, Nat.reduceSub, layTup, obj1, splice, List.take_succ_cons, List.take_zero, List.drop_succ_cons, List.drop_zero, List.cons_append, List.nil_append, List.append_nil, Bool.false_eq_true, if_true, if_false, Bool.not_true, Bool.not_false, hlt]))
      | with_reducible exact Vq.runDraw_nil
      | ((with_reducible apply Vq.runDraw_cons); exact rfl; exact rfl; exact rfl; (try simp only [St.setS, St.slot, St.setO, St.obj, List.set_cons_succ, List.set_cons_zero, List.getD_cons_succ, List.getD_cons_zero, V.withLeaves, List.headD_cons, V.borrow, freeze1, borrows, borrow1, V.leaves, V.nextg, List.length_cons, List.length_nil, Nat.reduceAdd, Nat.reduceSub, layTup, obj1, splice, List.take_succ_cons, List.take_zero, List.drop_succ_cons, List.drop_zero, List.cons_append, List.nil_append, List.append_nil, Bool.false_eq_true, if_true, if_false, Bool.not_true, Bool.not_false, hlt]))
      | ((with_reducible apply Vq.vret); exact rfl)
      | ((with_reducible apply Vq.vskip); exact rfl)
      | ((with_reducible apply Vq.vexit); exact rfl)
      | ((with_reducible apply Vq.vregion); case hr => exact rfl)
      | ((with_reducible apply Vq.vdraw); case hr => exact rfl)
      | with_reducible apply Vq.vseq
      | with_reducible apply Vq.vblock
      | ((with_reducible apply Vq.vcond); exact rfl; dsimp only [Vq.pickC])
      | (dsimp only [Vq.afterSeq]; done)
      | ((with_reducible apply Vq.vab0); exact rfl)
      | ((with_reducible apply Vq.vab1); exact rfl)
      | ((with_reducible apply Vq.vabr); exact rfl)
      | ((with_reducible apply Vq.vabx); (· decide); exact rfl)
      | dsimp only [Vq.afterSeq])
theorem loopb (G : VProg) (B N : List V) (ss : List (List UInt8)) (hl : ss.length ≤ 1000) (hs : ∀ s ∈ ss, s.length ≤ 300)
    (h37 : ∀ s m, s.length ≤ 1000 → 13 ≤ m → call G m 37 [.str s] [] = some (.xsl 0 1 (tx s), [])) : ∀ (j i m : Nat) (want : List V) (σ : St), i + j = ss.length → want.length + 1020 * j + 1020 ≤ 140737488355328 → 13 + j ≤ m → rebase? (some [0, 1, 2, 7, 42, 43, 44]) 0 σ = stb B N (ss.map V.str) want i →
    step (call G m) (itersOf G) (exec G m) 0 (.loop (some [0, 1, 2, 7, 42, 43, 44]) bodyb) σ = some (.exit 2, exb B N (ss.map V.str) (want ++ txs (ss.drop i)) ss.length)
  | 0, i, m, want, σ, hi, hb, hm, hr => by
    refine step_loop_out hr ?_ (by intro e; cases e)
    obtain rfl : i = ss.length := by omega
    simp only [List.drop_length, txs, List.flatMap_nil, List.append_nil]
    exact outb _ _ _ B N want ss _ (Nat.le_refl _)
  | j + 1, i, m, want, σ, hi, hb, hm, hr => by
    cases m with
    | zero => omega
    | succ m =>
    have hn := hs ss[i] (List.getElem_mem (by omega))
    obtain ⟨r, h1, h2⟩ := roundb (call G (m + 1)) (itersOf G) (exec G (m + 1)) B N want ss i (by omega) hl (by simp; omega) (by omega) (h37 _ _ (by omega) (by omega))
    have hd := tx_len ss[i] (by omega)
    have h3 := loopb G B N ss hl hs h37 j (i + 1) m _ r (by omega) (by simp; omega) (by omega) h2
    refine step_loop hr h1 ?_
    rw [exec_succ, h3]
    rw [List.drop_eq_getElem_cons (show i < ss.length by omega)]
    simp only [txs, List.flatMap_cons, List.append_assoc]
/-- One text is too long. -/
theorem loopbr (G : VProg) (B N : List V) (ss : List (List UInt8)) (hl : ss.length ≤ 1000)
    (h37 : ∀ s m, s.length ≤ 1000 → 13 ≤ m → call G m 37 [.str s] [] = some (.xsl 0 1 (tx s), [])) : ∀ (j i m : Nat) (want : List V) (σ : St), (∃ s ∈ ss.drop i, 300 < s.length) → i + j = ss.length → want.length + 1020 * j + 1020 ≤ 140737488355328 → 13 + j ≤ m → rebase? (some [0, 1, 2, 7, 42, 43, 44]) 0 σ = stb B N (ss.map V.str) want i →
    ∃ want' i' s', step (call G m) (itersOf G) (exec G m) 0 (.loop (some [0, 1, 2, 7, 42, 43, 44]) bodyb) σ = some (.ret, reb B N (ss.map V.str) want' i' s' [])
  | 0, i, m, want, σ, hx, hi, hb, hm, hr => by
    obtain rfl : i = ss.length := by omega
    obtain ⟨s, h1, _⟩ := hx
    simp at h1
  | j + 1, i, m, want, σ, hx, hi, hb, hm, hr => by
    cases m with
    | zero => omega
    | succ m =>
    by_cases hn : 300 < (ss[i]).length
    · exact ⟨want, i, ss[i], step_loop_out hr (retb _ _ _ B N want ss i (by omega) hl (by simp; omega)) (by intro e; cases e)⟩
    · obtain ⟨r, h1, h2⟩ := roundb (call G (m + 1)) (itersOf G) (exec G (m + 1)) B N want ss i (by omega) hl (by simp; omega) (by omega) (h37 _ _ (by omega) (by omega))
      have hd := tx_len ss[i] (by omega)
      obtain ⟨w', i', s', h3⟩ := loopbr G B N ss hl h37 j (i + 1) m _ r (by
        obtain ⟨s, h5, h6⟩ := hx
        rw [List.drop_eq_getElem_cons (show i < ss.length by omega)] at h5
        rcases List.mem_cons.1 h5 with e | h5
        · rw [e] at h6
          exact absurd h6 hn
        · exact ⟨s, h5, h6⟩) (by omega) (by simp; omega) (by omega) h2
      refine ⟨w', i', s', step_loop hr h1 ?_⟩
      rw [exec_succ, h3]
section
variable (G : VProg) (hG : G 11 = some (.code v11)) (M : Nat) (h31 : ∀ m, M ≤ m → call G m 31 [] [] = some (.bool true, []))
variable (h36 : ∀ n m, 0 ≤ n → n < 18446744073709551616 → 12 ≤ m → call G m 36 [.int .u64 n] [] = some (.xsl 0 1 (dg n), []))
variable (h37 : ∀ s m, s.length ≤ 1000 → 13 ≤ m → call G m 37 [.str s] [] = some (.xsl 0 1 (tx s), []))
include hG h31
theorem out1 (B N S : List V) (g1 : decide ((B.length : Int) > 200) = true) (m : Nat) (hm : M + 60 ≤ m) :
    call G m 11 [.isl 0 1 B, .isl 0 1 N, .isl 0 1 S] [] = some (.bool true, []) := by
  obtain ⟨m, rfl⟩ : ∃ k, m = k + 1 := ⟨m - 1, by omega⟩
  have g2 := 0
  have g3 := 0
  apply call_code (o := .ret) hG ⟨rfl, by decide⟩
  · change step (call G m) (itersOf G) (exec G m) 0 b11 _ = _
    (try simp only [Vq.start, List.length_cons, List.length_nil, List.map_cons, List.map_nil, List.cons_append, List.nil_append, List.replicate_succ, List.replicate_zero, Nat.reduceAdd, Nat.reduceSub, v11])
    unfold b11
    (with_reducible apply Vq.vseq)
    · repeat' (first
      | with_reducible exact Vq.runOps_nil
      | ((with_reducible apply Vq.runOps_cons); exact rfl; (try simp only [St.setS, St.slot, St.setO, St.obj, List.set_cons_succ, List.set_cons_zero, List.getD_cons_succ, List.getD_cons_zero, V.withLeaves, List.headD_cons, V.borrow, freeze1, borrows, borrow1, V.leaves, V.nextg, List.length_cons, List.length_nil, Nat.reduceAdd, Nat.reduceSub, layTup, obj1, splice, List.take_succ_cons, List.take_zero, List.drop_succ_cons, List.drop_zero, List.cons_append, List.nil_append, List.append_nil, Bool.false_eq_true, if_true, if_false, Bool.not_true, Bool.not_false]))
      | with_reducible exact Vq.runDraw_nil
      | ((with_reducible apply Vq.runDraw_cons); exact rfl; exact rfl; exact rfl; (try simp only [St.setS, St.slot, St.setO, St.obj, List.set_cons_succ, List.set_cons_zero, List.getD_cons_succ, List.getD_cons_zero, V.withLeaves, List.headD_cons, V.borrow, freeze1, borrows, borrow1, V.leaves, V.nextg, List.length_cons, List.length_nil, Nat.reduceAdd, Nat.reduceSub, layTup, obj1, splice, List.take_succ_cons, List.take_zero, List.drop_succ_cons, List.drop_zero, List.cons_append, List.nil_append, List.append_nil, Bool.false_eq_true, if_true, if_false, Bool.not_true, Bool.not_false]))
      | ((with_reducible apply Vq.vret); exact rfl)
      | ((with_reducible apply Vq.vskip); exact rfl)
      | ((with_reducible apply Vq.vexit); exact rfl)
      | ((with_reducible apply Vq.vregion); case hr => exact rfl)
      | ((with_reducible apply Vq.vdraw); case hr => exact rfl)
      | with_reducible apply Vq.vseq
      | with_reducible apply Vq.vblock
      | ((with_reducible apply Vq.vcond); exact rfl; dsimp only [Vq.pickC])
      | (dsimp only [Vq.afterSeq]; done)
      | ((with_reducible apply Vq.vab0); exact rfl)
      | ((with_reducible apply Vq.vab1); exact rfl)
      | ((with_reducible apply Vq.vabr); exact rfl)
      | ((with_reducible apply Vq.vabx); (· decide); exact rfl)
      | dsimp only [Vq.afterSeq])
    dsimp only [afterSeq]
    (with_reducible apply Vq.vseq)
    · repeat' (first
      | with_reducible exact Vq.runOps_nil
      | ((with_reducible apply Vq.runOps_cons); exact rfl; (try simp only [St.setS, St.slot, St.setO, St.obj, List.set_cons_succ, List.set_cons_zero, List.getD_cons_succ, List.getD_cons_zero, V.withLeaves, List.headD_cons, V.borrow, freeze1, borrows, borrow1, V.leaves, V.nextg, List.length_cons, List.length_nil, Nat.reduceAdd, Nat.reduceSub, layTup, obj1, splice, List.take_succ_cons, List.take_zero, List.drop_succ_cons, List.drop_zero, List.cons_append, List.nil_append, List.append_nil, Bool.false_eq_true, if_true, if_false, Bool.not_true, Bool.not_false]))
      | ((with_reducible apply Vq.runOps_cons); (apply Vq.vcallL; exact rfl; exact fun _ => rfl; exact fun _ => rfl; exact fun _ => rfl; exact fun _ => rfl; decide; exact rfl; exact rfl; (first | exact h31 _ (by omega)); exact rfl); (try simp only [St.setS, St.slot, St.setO, St.obj, List.set_cons_succ, List.set_cons_zero, List.getD_cons_succ, List.getD_cons_zero, V.withLeaves, List.headD_cons, V.borrow, freeze1, borrows, borrow1, V.leaves, V.nextg, List.length_cons, List.length_nil, Nat.reduceAdd, Nat.reduceSub, layTup, obj1, splice, List.take_succ_cons, List.take_zero, List.drop_succ_cons, List.drop_zero, List.cons_append, List.nil_append, List.append_nil, Bool.false_eq_true, if_true, if_false, Bool.not_true, Bool.not_false]))
      | ((with_reducible apply Vq.runOps_cons); (apply Vq.vcallA; exact rfl; exact fun _ => rfl; exact rfl; (first | exact h31 _ (by omega)); (first | exact rfl | (simp [Vq.V.apart, Vq.V.leaves, Vq.V.noslice]; done) | (simp [Vq.V.apart, Vq.V.leaves, Vq.V.noslice]; assumption)); exact rfl); (try simp only [St.setS, St.slot, St.setO, St.obj, List.set_cons_succ, List.set_cons_zero, List.getD_cons_succ, List.getD_cons_zero, V.withLeaves, List.headD_cons, V.borrow, freeze1, borrows, borrow1, V.leaves, V.nextg, List.length_cons, List.length_nil, Nat.reduceAdd, Nat.reduceSub, layTup, obj1, splice, List.take_succ_cons, List.take_zero, List.drop_succ_cons, List.drop_zero, List.cons_append, List.nil_append, List.append_nil, Bool.false_eq_true, if_true, if_false, Bool.not_true, Bool.not_false]))
      | with_reducible exact Vq.runDraw_nil
      | ((with_reducible apply Vq.runDraw_cons); exact rfl; exact rfl; exact rfl; (try simp only [St.setS, St.slot, St.setO, St.obj, List.set_cons_succ, List.set_cons_zero, List.getD_cons_succ, List.getD_cons_zero, V.withLeaves, List.headD_cons, V.borrow, freeze1, borrows, borrow1, V.leaves, V.nextg, List.length_cons, List.length_nil, Nat.reduceAdd, Nat.reduceSub, layTup, obj1, splice, List.take_succ_cons, List.take_zero, List.drop_succ_cons, List.drop_zero, List.cons_append, List.nil_append, List.append_nil, Bool.false_eq_true, if_true, if_false, Bool.not_true, Bool.not_false]))
      | ((with_reducible apply Vq.vret); exact rfl)
      | ((with_reducible apply Vq.vskip); exact rfl)
      | ((with_reducible apply Vq.vexit); exact rfl)
      | ((with_reducible apply Vq.vregion); case hr => exact rfl)
      | ((with_reducible apply Vq.vdraw); case hr => exact rfl)
      | with_reducible apply Vq.vseq
      | with_reducible apply Vq.vblock
      | ((with_reducible apply Vq.vcond); exact rfl; dsimp only [Vq.pickC])
      | (dsimp only [Vq.afterSeq]; done)
      | ((with_reducible apply Vq.vab0); exact rfl)
      | ((with_reducible apply Vq.vab1); exact rfl)
      | ((with_reducible apply Vq.vabr); exact rfl)
      | ((with_reducible apply Vq.vabx); (· decide); exact rfl)
      | dsimp only [Vq.afterSeq])
    dsimp only [afterSeq]
    (with_reducible apply Vq.vseq)
    · repeat' (first
      | with_reducible exact Vq.runOps_nil
      | ((with_reducible apply Vq.runOps_cons); exact rfl; (try simp only [St.setS, St.slot, St.setO, St.obj, List.set_cons_succ, List.set_cons_zero, List.getD_cons_succ, List.getD_cons_zero, V.withLeaves, List.headD_cons, V.borrow, freeze1, borrows, borrow1, V.leaves, V.nextg, List.length_cons, List.length_nil, Nat.reduceAdd, Nat.reduceSub, layTup, obj1, splice, List.take_succ_cons, List.take_zero, List.drop_succ_cons, List.drop_zero, List.cons_append, List.nil_append, List.append_nil, Bool.false_eq_true, if_true, if_false, Bool.not_true, Bool.not_false, g1]))
      | with_reducible exact Vq.runDraw_nil
      | ((with_reducible apply Vq.runDraw_cons); exact rfl; exact rfl; exact rfl; (try simp only [St.setS, St.slot, St.setO, St.obj, List.set_cons_succ, List.set_cons_zero, List.getD_cons_succ, List.getD_cons_zero, V.withLeaves, List.headD_cons, V.borrow, freeze1, borrows, borrow1, V.leaves, V.nextg, List.length_cons, List.length_nil, Nat.reduceAdd, Nat.reduceSub, layTup, obj1, splice, List.take_succ_cons, List.take_zero, List.drop_succ_cons, List.drop_zero, List.cons_append, List.nil_append, List.append_nil, Bool.false_eq_true, if_true, if_false, Bool.not_true, Bool.not_false, g1]))
      | ((with_reducible apply Vq.vret); exact rfl)
      | ((with_reducible apply Vq.vskip); exact rfl)
      | ((with_reducible apply Vq.vexit); exact rfl)
      | ((with_reducible apply Vq.vregion); case hr => exact rfl)
      | ((with_reducible apply Vq.vdraw); case hr => exact rfl)
      | with_reducible apply Vq.vseq
      | with_reducible apply Vq.vblock
      | ((with_reducible apply Vq.vcond); exact rfl; dsimp only [Vq.pickC])
      | (dsimp only [Vq.afterSeq]; done)
      | ((with_reducible apply Vq.vab0); exact rfl)
      | ((with_reducible apply Vq.vab1); exact rfl)
      | ((with_reducible apply Vq.vabr); exact rfl)
      | ((with_reducible apply Vq.vabx); (· decide); exact rfl)
      | dsimp only [Vq.afterSeq])
    dsimp only [afterSeq]
  · exact .inr rfl
  · first | exact rfl | (apply Vq.vfin; (· apply Vq.run_asks; (· simp); (try simp only [List.take_length, List.drop_zero]); (first | apply Vq.run_if trivial | apply Vq.run_if rfl); unfold Vq.sHome; simp only [Vq.Prog.run]; apply Vq.run_asks; (· exact Nat.zero_lt_one); exact rfl); (· exact rfl); (· exact rfl); (· decide); (· exact rfl); (· exact rfl))
theorem out2 (B N S : List V) (g1 : decide ((B.length : Int) > 200) = false) (g2 : decide ((N.length : Int) > 30) = true) (m : Nat) (hm : M + 60 ≤ m) :
    call G m 11 [.isl 0 1 B, .isl 0 1 N, .isl 0 1 S] [] = some (.bool true, []) := by
  obtain ⟨m, rfl⟩ : ∃ k, m = k + 1 := ⟨m - 1, by omega⟩
  apply call_code (o := .ret) hG ⟨rfl, by decide⟩
  · change step (call G m) (itersOf G) (exec G m) 0 b11 _ = _
    (try simp only [Vq.start, List.length_cons, List.length_nil, List.map_cons, List.map_nil, List.cons_append, List.nil_append, List.replicate_succ, List.replicate_zero, Nat.reduceAdd, Nat.reduceSub, v11])
    unfold b11
    (with_reducible apply Vq.vseq)
    · repeat' (first
      | with_reducible exact Vq.runOps_nil
      | ((with_reducible apply Vq.runOps_cons); exact rfl; (try simp only [St.setS, St.slot, St.setO, St.obj, List.set_cons_succ, List.set_cons_zero, List.getD_cons_succ, List.getD_cons_zero, V.withLeaves, List.headD_cons, V.borrow, freeze1, borrows, borrow1, V.leaves, V.nextg, List.length_cons, List.length_nil, Nat.reduceAdd, Nat.reduceSub, layTup, obj1, splice, List.take_succ_cons, List.take_zero, List.drop_succ_cons, List.drop_zero, List.cons_append, List.nil_append, List.append_nil, Bool.false_eq_true, if_true, if_false, Bool.not_true, Bool.not_false]))
      | with_reducible exact Vq.runDraw_nil
      | ((with_reducible apply Vq.runDraw_cons); exact rfl; exact rfl; exact rfl; (try simp only [St.setS, St.slot, St.setO, St.obj, List.set_cons_succ, List.set_cons_zero, List.getD_cons_succ, List.getD_cons_zero, V.withLeaves, List.headD_cons, V.borrow, freeze1, borrows, borrow1, V.leaves, V.nextg, List.length_cons, List.length_nil, Nat.reduceAdd, Nat.reduceSub, layTup, obj1, splice, List.take_succ_cons, List.take_zero, List.drop_succ_cons, List.drop_zero, List.cons_append, List.nil_append, List.append_nil, Bool.false_eq_true, if_true, if_false, Bool.not_true, Bool.not_false]))
      | ((with_reducible apply Vq.vret); exact rfl)
      | ((with_reducible apply Vq.vskip); exact rfl)
      | ((with_reducible apply Vq.vexit); exact rfl)
      | ((with_reducible apply Vq.vregion); case hr => exact rfl)
      | ((with_reducible apply Vq.vdraw); case hr => exact rfl)
      | with_reducible apply Vq.vseq
      | with_reducible apply Vq.vblock
      | ((with_reducible apply Vq.vcond); exact rfl; dsimp only [Vq.pickC])
      | (dsimp only [Vq.afterSeq]; done)
      | ((with_reducible apply Vq.vab0); exact rfl)
      | ((with_reducible apply Vq.vab1); exact rfl)
      | ((with_reducible apply Vq.vabr); exact rfl)
      | ((with_reducible apply Vq.vabx); (· decide); exact rfl)
      | dsimp only [Vq.afterSeq])
    dsimp only [afterSeq]
    (with_reducible apply Vq.vseq)
    · repeat' (first
      | with_reducible exact Vq.runOps_nil
      | ((with_reducible apply Vq.runOps_cons); exact rfl; (try simp only [St.setS, St.slot, St.setO, St.obj, List.set_cons_succ, List.set_cons_zero, List.getD_cons_succ, List.getD_cons_zero, V.withLeaves, List.headD_cons, V.borrow, freeze1, borrows, borrow1, V.leaves, V.nextg, List.length_cons, List.length_nil, Nat.reduceAdd, Nat.reduceSub, layTup, obj1, splice, List.take_succ_cons, List.take_zero, List.drop_succ_cons, List.drop_zero, List.cons_append, List.nil_append, List.append_nil, Bool.false_eq_true, if_true, if_false, Bool.not_true, Bool.not_false]))
      | ((with_reducible apply Vq.runOps_cons); (apply Vq.vcallL; exact rfl; exact fun _ => rfl; exact fun _ => rfl; exact fun _ => rfl; exact fun _ => rfl; decide; exact rfl; exact rfl; (first | exact h31 _ (by omega)); exact rfl); (try simp only [St.setS, St.slot, St.setO, St.obj, List.set_cons_succ, List.set_cons_zero, List.getD_cons_succ, List.getD_cons_zero, V.withLeaves, List.headD_cons, V.borrow, freeze1, borrows, borrow1, V.leaves, V.nextg, List.length_cons, List.length_nil, Nat.reduceAdd, Nat.reduceSub, layTup, obj1, splice, List.take_succ_cons, List.take_zero, List.drop_succ_cons, List.drop_zero, List.cons_append, List.nil_append, List.append_nil, Bool.false_eq_true, if_true, if_false, Bool.not_true, Bool.not_false]))
      | ((with_reducible apply Vq.runOps_cons); (apply Vq.vcallA; exact rfl; exact fun _ => rfl; exact rfl; (first | exact h31 _ (by omega)); (first | exact rfl | (simp [Vq.V.apart, Vq.V.leaves, Vq.V.noslice]; done) | (simp [Vq.V.apart, Vq.V.leaves, Vq.V.noslice]; assumption)); exact rfl); (try simp only [St.setS, St.slot, St.setO, St.obj, List.set_cons_succ, List.set_cons_zero, List.getD_cons_succ, List.getD_cons_zero, V.withLeaves, List.headD_cons, V.borrow, freeze1, borrows, borrow1, V.leaves, V.nextg, List.length_cons, List.length_nil, Nat.reduceAdd, Nat.reduceSub, layTup, obj1, splice, List.take_succ_cons, List.take_zero, List.drop_succ_cons, List.drop_zero, List.cons_append, List.nil_append, List.append_nil, Bool.false_eq_true, if_true, if_false, Bool.not_true, Bool.not_false]))
      | with_reducible exact Vq.runDraw_nil
      | ((with_reducible apply Vq.runDraw_cons); exact rfl; exact rfl; exact rfl; (try simp only [St.setS, St.slot, St.setO, St.obj, List.set_cons_succ, List.set_cons_zero, List.getD_cons_succ, List.getD_cons_zero, V.withLeaves, List.headD_cons, V.borrow, freeze1, borrows, borrow1, V.leaves, V.nextg, List.length_cons, List.length_nil, Nat.reduceAdd, Nat.reduceSub, layTup, obj1, splice, List.take_succ_cons, List.take_zero, List.drop_succ_cons, List.drop_zero, List.cons_append, List.nil_append, List.append_nil, Bool.false_eq_true, if_true, if_false, Bool.not_true, Bool.not_false]))
      | ((with_reducible apply Vq.vret); exact rfl)
      | ((with_reducible apply Vq.vskip); exact rfl)
      | ((with_reducible apply Vq.vexit); exact rfl)
      | ((with_reducible apply Vq.vregion); case hr => exact rfl)
      | ((with_reducible apply Vq.vdraw); case hr => exact rfl)
      | with_reducible apply Vq.vseq
      | with_reducible apply Vq.vblock
      | ((with_reducible apply Vq.vcond); exact rfl; dsimp only [Vq.pickC])
      | (dsimp only [Vq.afterSeq]; done)
      | ((with_reducible apply Vq.vab0); exact rfl)
      | ((with_reducible apply Vq.vab1); exact rfl)
      | ((with_reducible apply Vq.vabr); exact rfl)
      | ((with_reducible apply Vq.vabx); (· decide); exact rfl)
      | dsimp only [Vq.afterSeq])
    dsimp only [afterSeq]
    (with_reducible apply Vq.vseq)
    · repeat' (first
      | with_reducible exact Vq.runOps_nil
      | ((with_reducible apply Vq.runOps_cons); exact rfl; (try simp only [St.setS, St.slot, St.setO, St.obj, List.set_cons_succ, List.set_cons_zero, List.getD_cons_succ, List.getD_cons_zero, V.withLeaves, List.headD_cons, V.borrow, freeze1, borrows, borrow1, V.leaves, V.nextg, List.length_cons, List.length_nil, Nat.reduceAdd, Nat.reduceSub, layTup, obj1, splice, List.take_succ_cons, List.take_zero, List.drop_succ_cons, List.drop_zero, List.cons_append, List.nil_append, List.append_nil, Bool.false_eq_true, if_true, if_false, Bool.not_true, Bool.not_false, g1, g2]))
      | with_reducible exact Vq.runDraw_nil
      | ((with_reducible apply Vq.runDraw_cons); exact rfl; exact rfl; exact rfl; (try simp only [St.setS, St.slot, St.setO, St.obj, List.set_cons_succ, List.set_cons_zero, List.getD_cons_succ, List.getD_cons_zero, V.withLeaves, List.headD_cons, V.borrow, freeze1, borrows, borrow1, V.leaves, V.nextg, List.length_cons, List.length_nil, Nat.reduceAdd, Nat.reduceSub, layTup, obj1, splice, List.take_succ_cons, List.take_zero, List.drop_succ_cons, List.drop_zero, List.cons_append, List.nil_append, List.append_nil, Bool.false_eq_true, if_true, if_false, Bool.not_true, Bool.not_false, g1, g2]))
      | ((with_reducible apply Vq.vret); exact rfl)
      | ((with_reducible apply Vq.vskip); exact rfl)
      | ((with_reducible apply Vq.vexit); exact rfl)
      | ((with_reducible apply Vq.vregion); case hr => exact rfl)
      | ((with_reducible apply Vq.vdraw); case hr => exact rfl)
      | with_reducible apply Vq.vseq
      | with_reducible apply Vq.vblock
      | ((with_reducible apply Vq.vcond); exact rfl; dsimp only [Vq.pickC])
      | (dsimp only [Vq.afterSeq]; done)
      | ((with_reducible apply Vq.vab0); exact rfl)
      | ((with_reducible apply Vq.vab1); exact rfl)
      | ((with_reducible apply Vq.vabr); exact rfl)
      | ((with_reducible apply Vq.vabx); (· decide); exact rfl)
      | dsimp only [Vq.afterSeq])
    dsimp only [afterSeq]
  · exact .inr rfl
  · first | exact rfl | (apply Vq.vfin; (· apply Vq.run_asks; (· simp); (try simp only [List.take_length, List.drop_zero]); (first | apply Vq.run_if trivial | apply Vq.run_if rfl); unfold Vq.sHome; simp only [Vq.Prog.run]; apply Vq.run_asks; (· exact Nat.zero_lt_one); exact rfl); (· exact rfl); (· exact rfl); (· decide); (· exact rfl); (· exact rfl))
theorem out3 (B N S : List V) (g1 : decide ((B.length : Int) > 200) = false) (g2 : decide ((N.length : Int) > 30) = false) (g3 : decide ((S.length : Int) > 30) = true) (m : Nat) (hm : M + 60 ≤ m) :
    call G m 11 [.isl 0 1 B, .isl 0 1 N, .isl 0 1 S] [] = some (.bool true, []) := by
  obtain ⟨m, rfl⟩ : ∃ k, m = k + 1 := ⟨m - 1, by omega⟩
  apply call_code (o := .ret) hG ⟨rfl, by decide⟩
  · change step (call G m) (itersOf G) (exec G m) 0 b11 _ = _
    (try simp only [Vq.start, List.length_cons, List.length_nil, List.map_cons, List.map_nil, List.cons_append, List.nil_append, List.replicate_succ, List.replicate_zero, Nat.reduceAdd, Nat.reduceSub, v11])
    unfold b11
    (with_reducible apply Vq.vseq)
    · repeat' (first
      | with_reducible exact Vq.runOps_nil
      | ((with_reducible apply Vq.runOps_cons); exact rfl; (try simp only [St.setS, St.slot, St.setO, St.obj, List.set_cons_succ, List.set_cons_zero, List.getD_cons_succ, List.getD_cons_zero, V.withLeaves, List.headD_cons, V.borrow, freeze1, borrows, borrow1, V.leaves, V.nextg, List.length_cons, List.length_nil, Nat.reduceAdd, Nat.reduceSub, layTup, obj1, splice, List.take_succ_cons, List.take_zero, List.drop_succ_cons, List.drop_zero, List.cons_append, List.nil_append, List.append_nil, Bool.false_eq_true, if_true, if_false, Bool.not_true, Bool.not_false]))
      | with_reducible exact Vq.runDraw_nil
      | ((with_reducible apply Vq.runDraw_cons); exact rfl; exact rfl; exact rfl; (try simp only [St.setS, St.slot, St.setO, St.obj, List.set_cons_succ, List.set_cons_zero, List.getD_cons_succ, List.getD_cons_zero, V.withLeaves, List.headD_cons, V.borrow, freeze1, borrows, borrow1, V.leaves, V.nextg, List.length_cons, List.length_nil, Nat.reduceAdd, Nat.reduceSub, layTup, obj1, splice, List.take_succ_cons, List.take_zero, List.drop_succ_cons, List.drop_zero, List.cons_append, List.nil_append, List.append_nil, Bool.false_eq_true, if_true, if_false, Bool.not_true, Bool.not_false]))
      | ((with_reducible apply Vq.vret); exact rfl)
      | ((with_reducible apply Vq.vskip); exact rfl)
      | ((with_reducible apply Vq.vexit); exact rfl)
      | ((with_reducible apply Vq.vregion); case hr => exact rfl)
      | ((with_reducible apply Vq.vdraw); case hr => exact rfl)
      | with_reducible apply Vq.vseq
      | with_reducible apply Vq.vblock
      | ((with_reducible apply Vq.vcond); exact rfl; dsimp only [Vq.pickC])
      | (dsimp only [Vq.afterSeq]; done)
      | ((with_reducible apply Vq.vab0); exact rfl)
      | ((with_reducible apply Vq.vab1); exact rfl)
      | ((with_reducible apply Vq.vabr); exact rfl)
      | ((with_reducible apply Vq.vabx); (· decide); exact rfl)
      | dsimp only [Vq.afterSeq])
    dsimp only [afterSeq]
    (with_reducible apply Vq.vseq)
    · repeat' (first
      | with_reducible exact Vq.runOps_nil
      | ((with_reducible apply Vq.runOps_cons); exact rfl; (try simp only [St.setS, St.slot, St.setO, St.obj, List.set_cons_succ, List.set_cons_zero, List.getD_cons_succ, List.getD_cons_zero, V.withLeaves, List.headD_cons, V.borrow, freeze1, borrows, borrow1, V.leaves, V.nextg, List.length_cons, List.length_nil, Nat.reduceAdd, Nat.reduceSub, layTup, obj1, splice, List.take_succ_cons, List.take_zero, List.drop_succ_cons, List.drop_zero, List.cons_append, List.nil_append, List.append_nil, Bool.false_eq_true, if_true, if_false, Bool.not_true, Bool.not_false]))
      | ((with_reducible apply Vq.runOps_cons); (apply Vq.vcallL; exact rfl; exact fun _ => rfl; exact fun _ => rfl; exact fun _ => rfl; exact fun _ => rfl; decide; exact rfl; exact rfl; (first | exact h31 _ (by omega)); exact rfl); (try simp only [St.setS, St.slot, St.setO, St.obj, List.set_cons_succ, List.set_cons_zero, List.getD_cons_succ, List.getD_cons_zero, V.withLeaves, List.headD_cons, V.borrow, freeze1, borrows, borrow1, V.leaves, V.nextg, List.length_cons, List.length_nil, Nat.reduceAdd, Nat.reduceSub, layTup, obj1, splice, List.take_succ_cons, List.take_zero, List.drop_succ_cons, List.drop_zero, List.cons_append, List.nil_append, List.append_nil, Bool.false_eq_true, if_true, if_false, Bool.not_true, Bool.not_false]))
      | ((with_reducible apply Vq.runOps_cons); (apply Vq.vcallA; exact rfl; exact fun _ => rfl; exact rfl; (first | exact h31 _ (by omega)); (first | exact rfl | (simp [Vq.V.apart, Vq.V.leaves, Vq.V.noslice]; done) | (simp [Vq.V.apart, Vq.V.leaves, Vq.V.noslice]; assumption)); exact rfl); (try simp only [St.setS, St.slot, St.setO, St.obj, List.set_cons_succ, List.set_cons_zero, List.getD_cons_succ, List.getD_cons_zero, V.withLeaves, List.headD_cons, V.borrow, freeze1, borrows, borrow1, V.leaves, V.nextg, List.length_cons, List.length_nil, Nat.reduceAdd, Nat.reduceSub, layTup, obj1, splice, List.take_succ_cons, List.take_zero, List.drop_succ_cons, List.drop_zero, List.cons_append, List.nil_append, List.append_nil, Bool.false_eq_true, if_true, if_false, Bool.not_true, Bool.not_false]))
      | with_reducible exact Vq.runDraw_nil
      | ((with_reducible apply Vq.runDraw_cons); exact rfl; exact rfl; exact rfl; (try simp only [St.setS, St.slot, St.setO, St.obj, List.set_cons_succ, List.set_cons_zero, List.getD_cons_succ, List.getD_cons_zero, V.withLeaves, List.headD_cons, V.borrow, freeze1, borrows, borrow1, V.leaves, V.nextg, List.length_cons, List.length_nil, Nat.reduceAdd, Nat.reduceSub, layTup, obj1, splice, List.take_succ_cons, List.take_zero, List.drop_succ_cons, List.drop_zero, List.cons_append, List.nil_append, List.append_nil, Bool.false_eq_true, if_true, if_false, Bool.not_true, Bool.not_false]))
      | ((with_reducible apply Vq.vret); exact rfl)
      | ((with_reducible apply Vq.vskip); exact rfl)
      | ((with_reducible apply Vq.vexit); exact rfl)
      | ((with_reducible apply Vq.vregion); case hr => exact rfl)
      | ((with_reducible apply Vq.vdraw); case hr => exact rfl)
      | with_reducible apply Vq.vseq
      | with_reducible apply Vq.vblock
      | ((with_reducible apply Vq.vcond); exact rfl; dsimp only [Vq.pickC])
      | (dsimp only [Vq.afterSeq]; done)
      | ((with_reducible apply Vq.vab0); exact rfl)
      | ((with_reducible apply Vq.vab1); exact rfl)
      | ((with_reducible apply Vq.vabr); exact rfl)
      | ((with_reducible apply Vq.vabx); (· decide); exact rfl)
      | dsimp only [Vq.afterSeq])
    dsimp only [afterSeq]
    (with_reducible apply Vq.vseq)
    · repeat' (first
      | with_reducible exact Vq.runOps_nil
      | ((with_reducible apply Vq.runOps_cons); exact rfl; (try simp only [St.setS, St.slot, St.setO, St.obj, List.set_cons_succ, List.set_cons_zero, List.getD_cons_succ, List.getD_cons_zero, V.withLeaves, List.headD_cons, V.borrow, freeze1, borrows, borrow1, V.leaves, V.nextg, List.length_cons, List.length_nil, Nat.reduceAdd, Nat.reduceSub, layTup, obj1, splice, List.take_succ_cons, List.take_zero, List.drop_succ_cons, List.drop_zero, List.cons_append, List.nil_append, List.append_nil, Bool.false_eq_true, if_true, if_false, Bool.not_true, Bool.not_false, g1, g2, g3]))
      | with_reducible exact Vq.runDraw_nil
      | ((with_reducible apply Vq.runDraw_cons); exact rfl; exact rfl; exact rfl; (try simp only [St.setS, St.slot, St.setO, St.obj, List.set_cons_succ, List.set_cons_zero, List.getD_cons_succ, List.getD_cons_zero, V.withLeaves, List.headD_cons, V.borrow, freeze1, borrows, borrow1, V.leaves, V.nextg, List.length_cons, List.length_nil, Nat.reduceAdd, Nat.reduceSub, layTup, obj1, splice, List.take_succ_cons, List.take_zero, List.drop_succ_cons, List.drop_zero, List.cons_append, List.nil_append, List.append_nil, Bool.false_eq_true, if_true, if_false, Bool.not_true, Bool.not_false, g1, g2, g3]))
      | ((with_reducible apply Vq.vret); exact rfl)
      | ((with_reducible apply Vq.vskip); exact rfl)
      | ((with_reducible apply Vq.vexit); exact rfl)
      | ((with_reducible apply Vq.vregion); case hr => exact rfl)
      | ((with_reducible apply Vq.vdraw); case hr => exact rfl)
      | with_reducible apply Vq.vseq
      | with_reducible apply Vq.vblock
      | ((with_reducible apply Vq.vcond); exact rfl; dsimp only [Vq.pickC])
      | (dsimp only [Vq.afterSeq]; done)
      | ((with_reducible apply Vq.vab0); exact rfl)
      | ((with_reducible apply Vq.vab1); exact rfl)
      | ((with_reducible apply Vq.vabr); exact rfl)
      | ((with_reducible apply Vq.vabx); (· decide); exact rfl)
      | dsimp only [Vq.afterSeq])
    dsimp only [afterSeq]
  · exact .inr rfl
  · first | exact rfl | (apply Vq.vfin; (· apply Vq.run_asks; (· simp); (try simp only [List.take_length, List.drop_zero]); (first | apply Vq.run_if trivial | apply Vq.run_if rfl); unfold Vq.sHome; simp only [Vq.Prog.run]; apply Vq.run_asks; (· exact Nat.zero_lt_one); exact rfl); (· exact rfl); (· exact rfl); (· decide); (· exact rfl); (· exact rfl))
include h36 h37
theorem out4 (B : List V) (hno : ∀ x ∈ B, x.noslice = true) (ns : List Int) (ss : List (List UInt8)) (hns : ∀ n ∈ ns, 0 ≤ n ∧ n < 18446744073709551616) (g1 : decide ((B.length : Int) > 200) = false) (g2 : decide (((ns.map (V.int .u64)).length : Int) > 30) = false) (g3 : decide (((ss.map V.str).length : Int) > 30) = false)
    (hx : ∃ s ∈ ss, 300 < s.length) (m : Nat) (hm : M + 60 ≤ m) :
    call G m 11 [.isl 0 1 B, .isl 0 1 (ns.map (V.int .u64)), .isl 0 1 (ss.map V.str)] [] = some (.bool true, []) := by
  obtain ⟨m, rfl⟩ : ∃ k, m = k + 1 := ⟨m - 1, by omega⟩
  have g1' := of_decide_eq_false g1
  have g2' := of_decide_eq_false g2
  have g3' := of_decide_eq_false g3
  simp only [List.length_map] at g2' g3'
  let S := ss.map V.str
  have hd := dgs_len ns
  obtain ⟨want', i', s', hl⟩ := loopbr G B (ns.map (V.int .u64)) ss (by omega) h37 ss.length 0 m (B ++ dgs ns) { slots := (.isl 0 1 B :: .isl 0 1 (ns.map (V.int .u64)) :: .isl 0 1 (ss.map V.str) :: .gone 0 :: .gone 0 :: .gone 0 :: .gone 0 :: .xsl 0 1 (B ++ dgs ns) :: .gone 0 :: .gone 0 :: .gone 0 :: .gone 0 :: .gone 0 :: .gone 0 :: .gone 0 :: .gone 0 :: .gone 0 :: .gone 0 :: .gone 0 :: .gone 0 :: .gone 0 :: .gone 0 :: .gone 0 :: .gone 0 :: .gone 0 :: .gone 0 :: .gone 0 :: .gone 0 :: .gone 0 :: .gone 0 :: .gone 0 :: .gone 0 :: .gone 0 :: .gone 0 :: .gone 0 :: .gone 0 :: .gone 0 :: .gone 0 :: .gone 0 :: .gone 0 :: .gone 0 :: .gone 0 :: .isl 0 1 (ss.map V.str) :: .int .i64 (ss.map V.str).length :: .int .i64 0 :: .gone 0 :: .gone 0 :: .gone 0 :: .gone 0 :: .gone 0 :: .gone 0 :: .gone 0 :: .gone 0 :: .gone 0 :: .gone 0 :: .gone 0 :: .gone 0 :: .gone 0 :: .gone 0 :: .gone 0 :: .gone 0 :: .gone 0 :: .gone 0 :: .gone 0 :: .gone 0 :: .gone 0 :: .gone 0 :: .gone 0 :: .gone 0 :: .gone 0 :: .gone 0 :: .gone 0 :: .gone 0 :: []), objs := [] } (by simpa using hx) (by omega) (by simp; omega) (by omega) rfl
  apply call_code (o := .ret) hG ⟨rfl, by decide⟩
  · change step (call G m) (itersOf G) (exec G m) 0 b11 _ = _
    (try simp only [Vq.start, List.length_cons, List.length_nil, List.map_cons, List.map_nil, List.cons_append, List.nil_append, List.replicate_succ, List.replicate_zero, Nat.reduceAdd, Nat.reduceSub, v11])
    unfold b11
    (with_reducible apply Vq.vseq)
    · repeat' (first
      | with_reducible exact Vq.runOps_nil
      | ((with_reducible apply Vq.runOps_cons); exact rfl; (try simp only [St.setS, St.slot, St.setO, St.obj, List.set_cons_succ, List.set_cons_zero, List.getD_cons_succ, List.getD_cons_zero, V.withLeaves, List.headD_cons, V.borrow, freeze1, borrows, borrow1, V.leaves, V.nextg, List.length_cons, List.length_nil, Nat.reduceAdd, Nat.reduceSub, layTup, obj1, splice, List.take_succ_cons, List.take_zero, List.drop_succ_cons, List.drop_zero, List.cons_append, List.nil_append, List.append_nil, Bool.false_eq_true, if_true, if_false, Bool.not_true, Bool.not_false]))
      | with_reducible exact Vq.runDraw_nil
      | ((with_reducible apply Vq.runDraw_cons); exact rfl; exact rfl; exact rfl; (try simp only [St.setS, St.slot, St.setO, St.obj, List.set_cons_succ, List.set_cons_zero, List.getD_cons_succ, List.getD_cons_zero, V.withLeaves, List.headD_cons, V.borrow, freeze1, borrows, borrow1, V.leaves, V.nextg, List.length_cons, List.length_nil, Nat.reduceAdd, Nat.reduceSub, layTup, obj1, splice, List.take_succ_cons, List.take_zero, List.drop_succ_cons, List.drop_zero, List.cons_append, List.nil_append, List.append_nil, Bool.false_eq_true, if_true, if_false, Bool.not_true, Bool.not_false]))
      | ((with_reducible apply Vq.vret); exact rfl)
      | ((with_reducible apply Vq.vskip); exact rfl)
      | ((with_reducible apply Vq.vexit); exact rfl)
      | ((with_reducible apply Vq.vregion); case hr => exact rfl)
      | ((with_reducible apply Vq.vdraw); case hr => exact rfl)
      | with_reducible apply Vq.vseq
      | with_reducible apply Vq.vblock
      | ((with_reducible apply Vq.vcond); exact rfl; dsimp only [Vq.pickC])
      | (dsimp only [Vq.afterSeq]; done)
      | ((with_reducible apply Vq.vab0); exact rfl)
      | ((with_reducible apply Vq.vab1); exact rfl)
      | ((with_reducible apply Vq.vabr); exact rfl)
      | ((with_reducible apply Vq.vabx); (· decide); exact rfl)
      | dsimp only [Vq.afterSeq])
    dsimp only [afterSeq]
    (with_reducible apply Vq.vseq)
    · repeat' (first
      | with_reducible exact Vq.runOps_nil
      | ((with_reducible apply Vq.runOps_cons); exact rfl; (try simp only [St.setS, St.slot, St.setO, St.obj, List.set_cons_succ, List.set_cons_zero, List.getD_cons_succ, List.getD_cons_zero, V.withLeaves, List.headD_cons, V.borrow, freeze1, borrows, borrow1, V.leaves, V.nextg, List.length_cons, List.length_nil, Nat.reduceAdd, Nat.reduceSub, layTup, obj1, splice, List.take_succ_cons, List.take_zero, List.drop_succ_cons, List.drop_zero, List.cons_append, List.nil_append, List.append_nil, Bool.false_eq_true, if_true, if_false, Bool.not_true, Bool.not_false]))
      | ((with_reducible apply Vq.runOps_cons); (apply Vq.vcallL; exact rfl; exact fun _ => rfl; exact fun _ => rfl; exact fun _ => rfl; exact fun _ => rfl; decide; exact rfl; exact rfl; (first | exact h31 _ (by omega)); exact rfl); (try simp only [St.setS, St.slot, St.setO, St.obj, List.set_cons_succ, List.set_cons_zero, List.getD_cons_succ, List.getD_cons_zero, V.withLeaves, List.headD_cons, V.borrow, freeze1, borrows, borrow1, V.leaves, V.nextg, List.length_cons, List.length_nil, Nat.reduceAdd, Nat.reduceSub, layTup, obj1, splice, List.take_succ_cons, List.take_zero, List.drop_succ_cons, List.drop_zero, List.cons_append, List.nil_append, List.append_nil, Bool.false_eq_true, if_true, if_false, Bool.not_true, Bool.not_false]))
      | ((with_reducible apply Vq.runOps_cons); (apply Vq.vcallA; exact rfl; exact fun _ => rfl; exact rfl; (first | exact h31 _ (by omega)); (first | exact rfl | (simp [Vq.V.apart, Vq.V.leaves, Vq.V.noslice]; done) | (simp [Vq.V.apart, Vq.V.leaves, Vq.V.noslice]; assumption)); exact rfl); (try simp only [St.setS, St.slot, St.setO, St.obj, List.set_cons_succ, List.set_cons_zero, List.getD_cons_succ, List.getD_cons_zero, V.withLeaves, List.headD_cons, V.borrow, freeze1, borrows, borrow1, V.leaves, V.nextg, List.length_cons, List.length_nil, Nat.reduceAdd, Nat.reduceSub, layTup, obj1, splice, List.take_succ_cons, List.take_zero, List.drop_succ_cons, List.drop_zero, List.cons_append, List.nil_append, List.append_nil, Bool.false_eq_true, if_true, if_false, Bool.not_true, Bool.not_false]))
      | with_reducible exact Vq.runDraw_nil
      | ((with_reducible apply Vq.runDraw_cons); exact rfl; exact rfl; exact rfl; (try simp only [St.setS, St.slot, St.setO, St.obj, List.set_cons_succ, List.set_cons_zero, List.getD_cons_succ, List.getD_cons_zero, V.withLeaves, List.headD_cons, V.borrow, freeze1, borrows, borrow1, V.leaves, V.nextg, List.length_cons, List.length_nil, Nat.reduceAdd, Nat.reduceSub, layTup, obj1, splice, List.take_succ_cons, List.take_zero, List.drop_succ_cons, List.drop_zero, List.cons_append, List.nil_append, List.append_nil, Bool.false_eq_true, if_true, if_false, Bool.not_true, Bool.not_false]))
      | ((with_reducible apply Vq.vret); exact rfl)
      | ((with_reducible apply Vq.vskip); exact rfl)
      | ((with_reducible apply Vq.vexit); exact rfl)
      | ((with_reducible apply Vq.vregion); case hr => exact rfl)
      | ((with_reducible apply Vq.vdraw); case hr => exact rfl)
      | with_reducible apply Vq.vseq
      | with_reducible apply Vq.vblock
      | ((with_reducible apply Vq.vcond); exact rfl; dsimp only [Vq.pickC])
      | (dsimp only [Vq.afterSeq]; done)
      | ((with_reducible apply Vq.vab0); exact rfl)
      | ((with_reducible apply Vq.vab1); exact rfl)
      | ((with_reducible apply Vq.vabr); exact rfl)
      | ((with_reducible apply Vq.vabx); (· decide); exact rfl)
      | dsimp only [Vq.afterSeq])
    dsimp only [afterSeq]
    (with_reducible apply Vq.vseq)
    · repeat' (first
      | with_reducible exact Vq.runOps_nil
      | ((with_reducible apply Vq.runOps_cons); exact rfl; (try simp only [St.setS, St.slot, St.setO, St.obj, List.set_cons_succ, List.set_cons_zero, List.getD_cons_succ, List.getD_cons_zero, V.withLeaves, List.headD_cons, V.borrow, freeze1, borrows, borrow1, V.leaves, V.nextg, List.length_cons, List.length_nil, Nat.reduceAdd, Nat.reduceSub, layTup, obj1, splice, List.take_succ_cons, List.take_zero, List.drop_succ_cons, List.drop_zero, List.cons_append, List.nil_append, List.append_nil, Bool.false_eq_true, if_true, if_false, Bool.not_true, Bool.not_false, g1, g2, g3]))
      | with_reducible exact Vq.runDraw_nil
      | ((with_reducible apply Vq.runDraw_cons); exact rfl; exact rfl; exact rfl; (try simp only [St.setS, St.slot, St.setO, St.obj, List.set_cons_succ, List.set_cons_zero, List.getD_cons_succ, List.getD_cons_zero, V.withLeaves, List.headD_cons, V.borrow, freeze1, borrows, borrow1, V.leaves, V.nextg, List.length_cons, List.length_nil, Nat.reduceAdd, Nat.reduceSub, layTup, obj1, splice, List.take_succ_cons, List.take_zero, List.drop_succ_cons, List.drop_zero, List.cons_append, List.nil_append, List.append_nil, Bool.false_eq_true, if_true, if_false, Bool.not_true, Bool.not_false, g1, g2, g3]))
      | ((with_reducible apply Vq.vret); exact rfl)
      | ((with_reducible apply Vq.vskip); exact rfl)
      | ((with_reducible apply Vq.vexit); exact rfl)
      | ((with_reducible apply Vq.vregion); case hr => exact rfl)
      | ((with_reducible apply Vq.vdraw); case hr => exact rfl)
      | with_reducible apply Vq.vseq
      | with_reducible apply Vq.vblock
      | ((with_reducible apply Vq.vcond); exact rfl; dsimp only [Vq.pickC])
      | (dsimp only [Vq.afterSeq]; done)
      | ((with_reducible apply Vq.vab0); exact rfl)
      | ((with_reducible apply Vq.vab1); exact rfl)
      | ((with_reducible apply Vq.vabr); exact rfl)
      | ((with_reducible apply Vq.vabx); (· decide); exact rfl)
      | dsimp only [Vq.afterSeq])
    dsimp only [afterSeq]
    (with_reducible apply Vq.vseq)
    · repeat' (first
      | with_reducible exact Vq.runOps_nil
      | ((with_reducible apply Vq.runOps_cons); exact rfl; (try simp only [St.setS, St.slot, St.setO, St.obj, List.set_cons_succ, List.set_cons_zero, List.getD_cons_succ, List.getD_cons_zero, V.withLeaves, List.headD_cons, V.borrow, freeze1, borrows, borrow1, V.leaves, V.nextg, List.length_cons, List.length_nil, Nat.reduceAdd, Nat.reduceSub, layTup, obj1, splice, List.take_succ_cons, List.take_zero, List.drop_succ_cons, List.drop_zero, List.cons_append, List.nil_append, List.append_nil, Bool.false_eq_true, if_true, if_false, Bool.not_true, Bool.not_false]))
      | ((with_reducible apply Vq.runOps_cons); (apply Vq.run_asks; (· simp); (try simp only [List.take_length, List.drop_zero]); apply Vq.run_if trivial; unfold Vq.sHome; simp only [Vq.Prog.run]; apply Vq.run_asks; (· exact Nat.zero_lt_one); apply Vq.run_asks; (· exact ⟨trivial, by (simp; omega)⟩); exact rfl); (try simp only [St.setS, St.slot, St.setO, St.obj, List.set_cons_succ, List.set_cons_zero, List.getD_cons_succ, List.getD_cons_zero, V.withLeaves, List.headD_cons, V.borrow, freeze1, borrows, borrow1, V.leaves, V.nextg, List.length_cons, List.length_nil, Nat.reduceAdd, Nat.reduceSub, layTup, obj1, splice, List.take_succ_cons, List.take_zero, List.drop_succ_cons, List.drop_zero, List.cons_append, List.nil_append, List.append_nil, Bool.false_eq_true, if_true, if_false, Bool.not_true, Bool.not_false]); (try simp only [List.take_length, List.drop_zero]))
      | ((with_reducible apply Vq.runOps_cons); (apply Vq.run_asks; (· exact rfl); apply Vq.run_asks; (· exact ⟨rfl, by (simp; omega)⟩); exact rfl); (try simp only [St.setS, St.slot, St.setO, St.obj, List.set_cons_succ, List.set_cons_zero, List.getD_cons_succ, List.getD_cons_zero, V.withLeaves, List.headD_cons, V.borrow, freeze1, borrows, borrow1, V.leaves, V.nextg, List.length_cons, List.length_nil, Nat.reduceAdd, Nat.reduceSub, layTup, obj1, splice, List.take_succ_cons, List.take_zero, List.drop_succ_cons, List.drop_zero, List.cons_append, List.nil_append, List.append_nil, Bool.false_eq_true, if_true, if_false, Bool.not_true, Bool.not_false]))
      | ((with_reducible apply Vq.runOps_cons); (apply Vq.run_asks; (· exact ⟨rfl, by (simp; omega)⟩); exact rfl); (try simp only [St.setS, St.slot, St.setO, St.obj, List.set_cons_succ, List.set_cons_zero, List.getD_cons_succ, List.getD_cons_zero, V.withLeaves, List.headD_cons, V.borrow, freeze1, borrows, borrow1, V.leaves, V.nextg, List.length_cons, List.length_nil, Nat.reduceAdd, Nat.reduceSub, layTup, obj1, splice, List.take_succ_cons, List.take_zero, List.drop_succ_cons, List.drop_zero, List.cons_append, List.nil_append, List.append_nil, Bool.false_eq_true, if_true, if_false, Bool.not_true, Bool.not_false]))
      | with_reducible exact Vq.runDraw_nil
      | ((with_reducible apply Vq.runDraw_cons); exact rfl; exact rfl; exact rfl; (try simp only [St.setS, St.slot, St.setO, St.obj, List.set_cons_succ, List.set_cons_zero, List.getD_cons_succ, List.getD_cons_zero, V.withLeaves, List.headD_cons, V.borrow, freeze1, borrows, borrow1, V.leaves, V.nextg, List.length_cons, List.length_nil, Nat.reduceAdd, Nat.reduceSub, layTup, obj1, splice, List.take_succ_cons, List.take_zero, List.drop_succ_cons, List.drop_zero, List.cons_append, List.nil_append, List.append_nil, Bool.false_eq_true, if_true, if_false, Bool.not_true, Bool.not_false]))
      | ((with_reducible apply Vq.vret); exact rfl)
      | ((with_reducible apply Vq.vskip); exact rfl)
      | ((with_reducible apply Vq.vexit); exact rfl)
      | ((with_reducible apply Vq.vregion); case hr => exact rfl)
      | ((with_reducible apply Vq.vdraw); case hr => exact rfl)
      | with_reducible apply Vq.vseq
      | with_reducible apply Vq.vblock
      | ((with_reducible apply Vq.vcond); exact rfl; dsimp only [Vq.pickC])
      | (dsimp only [Vq.afterSeq]; done)
      | ((with_reducible apply Vq.vab0); exact rfl)
      | ((with_reducible apply Vq.vab1); exact rfl)
      | ((with_reducible apply Vq.vabr); exact rfl)
      | ((with_reducible apply Vq.vabx); (· decide); exact rfl)
      | dsimp only [Vq.afterSeq])
    dsimp only [afterSeq]
    (with_reducible apply Vq.vseq)
    · (with_reducible apply Vq.vseq)
      · repeat' (first
      | with_reducible exact Vq.runOps_nil
      | ((with_reducible apply Vq.runOps_cons); exact rfl; (try simp only [St.setS, St.slot, St.setO, St.obj, List.set_cons_succ, List.set_cons_zero, List.getD_cons_succ, List.getD_cons_zero, V.withLeaves, List.headD_cons, V.borrow, freeze1, borrows, borrow1, V.leaves, V.nextg, List.length_cons, List.length_nil, Nat.reduceAdd, Nat.reduceSub, layTup, obj1, splice, List.take_succ_cons, List.take_zero, List.drop_succ_cons, List.drop_zero, List.cons_append, List.nil_append, List.append_nil, Bool.false_eq_true, if_true, if_false, Bool.not_true, Bool.not_false]))
      | with_reducible exact Vq.runDraw_nil
      | ((with_reducible apply Vq.runDraw_cons); exact rfl; exact rfl; exact rfl; (try simp only [St.setS, St.slot, St.setO, St.obj, List.set_cons_succ, List.set_cons_zero, List.getD_cons_succ, List.getD_cons_zero, V.withLeaves, List.headD_cons, V.borrow, freeze1, borrows, borrow1, V.leaves, V.nextg, List.length_cons, List.length_nil, Nat.reduceAdd, Nat.reduceSub, layTup, obj1, splice, List.take_succ_cons, List.take_zero, List.drop_succ_cons, List.drop_zero, List.cons_append, List.nil_append, List.append_nil, Bool.false_eq_true, if_true, if_false, Bool.not_true, Bool.not_false]))
      | ((with_reducible apply Vq.vret); exact rfl)
      | ((with_reducible apply Vq.vskip); exact rfl)
      | ((with_reducible apply Vq.vexit); exact rfl)
      | ((with_reducible apply Vq.vregion); case hr => exact rfl)
      | ((with_reducible apply Vq.vdraw); case hr => exact rfl)
      | with_reducible apply Vq.vseq
      | with_reducible apply Vq.vblock
      | ((with_reducible apply Vq.vcond); exact rfl; dsimp only [Vq.pickC])
      | (dsimp only [Vq.afterSeq]; done)
      | ((with_reducible apply Vq.vab0); exact rfl)
      | ((with_reducible apply Vq.vab1); exact rfl)
      | ((with_reducible apply Vq.vabr); exact rfl)
      | ((with_reducible apply Vq.vabx); (· decide); exact rfl)
      | dsimp only [Vq.afterSeq])
      dsimp only [afterSeq]
      (with_reducible apply vblock)
      · exact loopa G B ns S hns (by omega) h36 ns.length 0 m B _ (by omega) (by omega) hno (by omega) rfl
      · apply vabkx (τ := mid11 B (ns.map (V.int .u64)) S (B ++ dgs ns)) rfl
        exact rfl
    dsimp only [afterSeq]
    unfold mid11
    (with_reducible apply Vq.vseq)
    · (with_reducible apply Vq.vseq)
      · repeat' (first
      | with_reducible exact Vq.runOps_nil
      | ((with_reducible apply Vq.runOps_cons); exact rfl; (try simp only [St.setS, St.slot, St.setO, St.obj, List.set_cons_succ, List.set_cons_zero, List.getD_cons_succ, List.getD_cons_zero, V.withLeaves, List.headD_cons, V.borrow, freeze1, borrows, borrow1, V.leaves, V.nextg, List.length_cons, List.length_nil, Nat.reduceAdd, Nat.reduceSub, layTup, obj1, splice, List.take_succ_cons, List.take_zero, List.drop_succ_cons, List.drop_zero, List.cons_append, List.nil_append, List.append_nil, Bool.false_eq_true, if_true, if_false, Bool.not_true, Bool.not_false]))
      | with_reducible exact Vq.runDraw_nil
      | ((with_reducible apply Vq.runDraw_cons); exact rfl; exact rfl; exact rfl; (try simp only [St.setS, St.slot, St.setO, St.obj, List.set_cons_succ, List.set_cons_zero, List.getD_cons_succ, List.getD_cons_zero, V.withLeaves, List.headD_cons, V.borrow, freeze1, borrows, borrow1, V.leaves, V.nextg, List.length_cons, List.length_nil, Nat.reduceAdd, Nat.reduceSub, layTup, obj1, splice, List.take_succ_cons, List.take_zero, List.drop_succ_cons, List.drop_zero, List.cons_append, List.nil_append, List.append_nil, Bool.false_eq_true, if_true, if_false, Bool.not_true, Bool.not_false]))
      | ((with_reducible apply Vq.vret); exact rfl)
      | ((with_reducible apply Vq.vskip); exact rfl)
      | ((with_reducible apply Vq.vexit); exact rfl)
      | ((with_reducible apply Vq.vregion); case hr => exact rfl)
      | ((with_reducible apply Vq.vdraw); case hr => exact rfl)
      | with_reducible apply Vq.vseq
      | with_reducible apply Vq.vblock
      | ((with_reducible apply Vq.vcond); exact rfl; dsimp only [Vq.pickC])
      | (dsimp only [Vq.afterSeq]; done)
      | ((with_reducible apply Vq.vab0); exact rfl)
      | ((with_reducible apply Vq.vab1); exact rfl)
      | ((with_reducible apply Vq.vabr); exact rfl)
      | ((with_reducible apply Vq.vabx); (· decide); exact rfl)
      | dsimp only [Vq.afterSeq])
      dsimp only [afterSeq]
      (with_reducible apply vblock)
      · exact hl
      · repeat' (first
      | with_reducible exact Vq.runOps_nil
      | ((with_reducible apply Vq.runOps_cons); exact rfl; (try simp only [St.setS, St.slot, St.setO, St.obj, List.set_cons_succ, List.set_cons_zero, List.getD_cons_succ, List.getD_cons_zero, V.withLeaves, List.headD_cons, V.borrow, freeze1, borrows, borrow1, V.leaves, V.nextg, List.length_cons, List.length_nil, Nat.reduceAdd, Nat.reduceSub, layTup, obj1, splice, List.take_succ_cons, List.take_zero, List.drop_succ_cons, List.drop_zero, List.cons_append, List.nil_append, List.append_nil, Bool.false_eq_true, if_true, if_false, Bool.not_true, Bool.not_false]))
      | with_reducible exact Vq.runDraw_nil
      | ((with_reducible apply Vq.runDraw_cons); exact rfl; exact rfl; exact rfl; (try simp only [St.setS, St.slot, St.setO, St.obj, List.set_cons_succ, List.set_cons_zero, List.getD_cons_succ, List.getD_cons_zero, V.withLeaves, List.headD_cons, V.borrow, freeze1, borrows, borrow1, V.leaves, V.nextg, List.length_cons, List.length_nil, Nat.reduceAdd, Nat.reduceSub, layTup, obj1, splice, List.take_succ_cons, List.take_zero, List.drop_succ_cons, List.drop_zero, List.cons_append, List.nil_append, List.append_nil, Bool.false_eq_true, if_true, if_false, Bool.not_true, Bool.not_false]))
      | ((with_reducible apply Vq.vret); exact rfl)
      | ((with_reducible apply Vq.vskip); exact rfl)
      | ((with_reducible apply Vq.vexit); exact rfl)
      | ((with_reducible apply Vq.vregion); case hr => exact rfl)
      | ((with_reducible apply Vq.vdraw); case hr => exact rfl)
      | with_reducible apply Vq.vseq
      | with_reducible apply Vq.vblock
      | ((with_reducible apply Vq.vcond); exact rfl; dsimp only [Vq.pickC])
      | (dsimp only [Vq.afterSeq]; done)
      | ((with_reducible apply Vq.vab0); exact rfl)
      | ((with_reducible apply Vq.vab1); exact rfl)
      | ((with_reducible apply Vq.vabr); exact rfl)
      | ((with_reducible apply Vq.vabx); (· decide); exact rfl)
      | dsimp only [Vq.afterSeq])
    dsimp only [afterSeq]
  · exact .inr rfl
  · unfold reb
    first | exact rfl | (apply Vq.vfin; (· apply Vq.run_asks; (· simp); (try simp only [List.take_length, List.drop_zero]); (first | apply Vq.run_if trivial | apply Vq.run_if rfl); unfold Vq.sHome; simp only [Vq.Prog.run]; apply Vq.run_asks; (· exact Nat.zero_lt_one); exact rfl); (· exact rfl); (· exact rfl); (· decide); (· exact rfl); (· exact rfl))
end
section
variable {cal} {σ τ : St} {base : Nat}
theorem vguard {d : Option Nat} {op : VOp} {y : Nat} {b : Bool} {bf : Nat} (hy : σ.slot y = .bool b) (h : (VOper.prog cal base ⟨d, op, none, bf⟩).run σ = some τ) : (VOper.prog cal base ⟨d, op, some (y, b), bf⟩).run σ = some τ := by
  simp only [VOper.prog, Prog.run, hy, beq_self_eq_true, if_true] at h ⊢
  exact h
theorem vguard_foot {d : Option Nat} {op : VOp} {y : Nat} {b : Bool} {bf : Nat} {fr : List Loc × List Loc} (hy : σ.slot y = .bool b) (h : (VOper.prog cal base ⟨d, op, none, bf⟩).foot σ = fr) : (VOper.prog cal base ⟨d, op, some (y, b), bf⟩).foot σ = (.slot y :: fr.1, fr.2) := by
  simp only [VOper.prog, Prog.foot, hy, beq_self_eq_true, if_true] at h ⊢
  rw [h]
theorem vtextI {d : Option Nat} {x bf g : Nat} {es : List V} {s : List UInt8} (hx : σ.slot x = .isl g 1 es) (ht : textV es = some s) (hp : (putO d (.str s) .ret).run σ = some τ) :
    (VOper.prog cal base ⟨d, .conv .text (.tmp x), none, bf⟩).run σ = some τ := by
  simp only [VOper.prog, opProg, gOpd, Prog.run, hx, gView, optV, ht]
  exact hp
theorem vtextI_foot {d : Option Nat} {x bf g : Nat} {es : List V} {s : List UInt8} {fr : List Loc × List Loc} (hx : σ.slot x = .isl g 1 es) (ht : textV es = some s) (hp : (putO d (.str s) .ret).foot σ = fr) :
    (VOper.prog cal base ⟨d, .conv .text (.tmp x), none, bf⟩).foot σ = (.slot x :: fr.1, fr.2) := by
  simp only [VOper.prog, opProg, gOpd, Prog.foot, hx, gView, optV, ht, hp]
theorem vtextR {d : Option Nat} {x y bf g : Nat} {es : List V} {s : List UInt8} (hx : σ.slot x = .srf (.slot y 0) g 1 0 es.length) (hy : σ.slot y = .xsl g 1 es) (ht : textV es = some s) (hp : (putO d (.str s) .ret).run σ = some τ) :
    (VOper.prog cal base ⟨d, .conv .text (.tmp x), none, bf⟩).run σ = some τ := by
  have e : List.take es.length (List.drop 0 es) = es := by simp
  simp only [VOper.prog, opProg, gOpd, Prog.run, hx, gView, optV, gElems, gHome, hy, V.leaves, List.getElem?_cons_zero, and_self, if_true, Nat.zero_add, Nat.le_refl, e, ht]
  exact hp
theorem vtextR_foot {d : Option Nat} {x y bf g : Nat} {es : List V} {s : List UInt8} {fr : List Loc × List Loc} (hx : σ.slot x = .srf (.slot y 0) g 1 0 es.length) (hy : σ.slot y = .xsl g 1 es) (ht : textV es = some s) (hp : (putO d (.str s) .ret).foot σ = fr) :
    (VOper.prog cal base ⟨d, .conv .text (.tmp x), none, bf⟩).foot σ = (.slot x :: .slot y :: fr.1, fr.2) := by
  have e : List.take es.length (List.drop 0 es) = es := by simp
  simp only [VOper.prog, opProg, gOpd, Prog.foot, hx, gView, optV, gElems, gHome, hy, V.leaves, List.getElem?_cons_zero, and_self, if_true, Nat.zero_add, Nat.le_refl, e, ht, hp]
end
section
variable (G : VProg) (hG : G 11 = some (.code v11)) (M : Nat) (h31 : ∀ m, M ≤ m → call G m 31 [] [] = some (.bool true, []))
variable (h36 : ∀ n m, 0 ≤ n → n < 18446744073709551616 → 12 ≤ m → call G m 36 [.int .u64 n] [] = some (.xsl 0 1 (dg n), []))
variable (h37 : ∀ s m, s.length ≤ 1000 → 13 ≤ m → call G m 37 [.str s] [] = some (.xsl 0 1 (tx s), []))
variable (B : List V) (hno : ∀ x ∈ B, x.noslice = true) (ns : List Int) (ss : List (List UInt8)) (hns : ∀ n ∈ ns, 0 ≤ n ∧ n < 18446744073709551616)
variable (h35 : ∀ m, 50 ≤ m → call G m 35 [.isl 0 1 B, .isl 0 1 (ns.map (V.int .u64))] [] = some (.xsl 0 1 (B ++ dgs ns), []))
variable (h38 : ∀ m, 50 ≤ m → call G m 38 [.isl 0 1 (B ++ dgs ns), .isl 0 1 (ss.map V.str)] [] = some (.xsl 0 1 (B ++ dgs ns ++ txs ss), []))
variable (T TB : List UInt8) (hT : textV (B ++ dgs ns ++ txs ss) = some T) (hTB : textV B = some TB)
include hG h31 h36 h37 hno hns h35 h38 hT hTB
theorem out5 (g1 : decide ((B.length : Int) > 200) = false) (g2 : decide (((ns.map (V.int .u64)).length : Int) > 30) = false) (g3 : decide (((ss.map V.str).length : Int) > 30) = false)
    (hx : ∀ s ∈ ss, s.length ≤ 300) (m : Nat) (hm : M + 60 ≤ m) :
    call G m 11 [.isl 0 1 B, .isl 0 1 (ns.map (V.int .u64)), .isl 0 1 (ss.map V.str)] [] = some (.bool true, []) := by
  obtain ⟨m, rfl⟩ : ∃ k, m = k + 1 := ⟨m - 1, by omega⟩
  have g1' := of_decide_eq_false g1
  have g2' := of_decide_eq_false g2
  have g3' := of_decide_eq_false g3
  simp only [List.length_map] at g2' g3'
  let S := ss.map V.str
  have hd := dgs_len ns
  have hns2 := noslice_dgs ns
  have hns3 : ∀ x ∈ txs ss, x.noslice = true := by
    intro x hx
    simp only [txs, List.mem_flatMap] at hx
    obtain ⟨s, _, hx⟩ := hx
    exact noslice_tx s x hx
  apply call_code (o := .ret) hG ⟨rfl, by decide⟩
  · change step (call G m) (itersOf G) (exec G m) 0 b11 _ = _
    (try simp only [Vq.start, List.length_cons, List.length_nil, List.map_cons, List.map_nil, List.cons_append, List.nil_append, List.replicate_succ, List.replicate_zero, Nat.reduceAdd, Nat.reduceSub, v11])
    unfold b11
    (with_reducible apply Vq.vseq)
    · repeat' (first
      | with_reducible exact Vq.runOps_nil
      | ((with_reducible apply Vq.runOps_cons); exact rfl; (try simp only [St.setS, St.slot, St.setO, St.obj, List.set_cons_succ, List.set_cons_zero, List.getD_cons_succ, List.getD_cons_zero, V.withLeaves, List.headD_cons, V.borrow, freeze1, borrows, borrow1, V.leaves, V.nextg, List.length_cons, List.length_nil, Nat.reduceAdd, Nat.reduceSub, layTup, obj1, splice, List.take_succ_cons, List.take_zero, List.drop_succ_cons, List.drop_zero, List.cons_append, List.nil_append, List.append_nil, Bool.false_eq_true, if_true, if_false, Bool.not_true, Bool.not_false]))
      | with_reducible exact Vq.runDraw_nil
      | ((with_reducible apply Vq.runDraw_cons); exact rfl; exact rfl; exact rfl; (try simp only [St.setS, St.slot, St.setO, St.obj, List.set_cons_succ, List.set_cons_zero, List.getD_cons_succ, List.getD_cons_zero, V.withLeaves, List.headD_cons, V.borrow, freeze1, borrows, borrow1, V.leaves, V.nextg, List.length_cons, List.length_nil, Nat.reduceAdd, Nat.reduceSub, layTup, obj1, splice, List.take_succ_cons, List.take_zero, List.drop_succ_cons, List.drop_zero, List.cons_append, List.nil_append, List.append_nil, Bool.false_eq_true, if_true, if_false, Bool.not_true, Bool.not_false]))
      | ((with_reducible apply Vq.vret); exact rfl)
      | ((with_reducible apply Vq.vskip); exact rfl)
      | ((with_reducible apply Vq.vexit); exact rfl)
      | ((with_reducible apply Vq.vregion); case hr => exact rfl)
      | ((with_reducible apply Vq.vdraw); case hr => exact rfl)
      | with_reducible apply Vq.vseq
      | with_reducible apply Vq.vblock
      | ((with_reducible apply Vq.vcond); exact rfl; dsimp only [Vq.pickC])
      | (dsimp only [Vq.afterSeq]; done)
      | ((with_reducible apply Vq.vab0); exact rfl)
      | ((with_reducible apply Vq.vab1); exact rfl)
      | ((with_reducible apply Vq.vabr); exact rfl)
      | ((with_reducible apply Vq.vabx); (· decide); exact rfl)
      | dsimp only [Vq.afterSeq])
    dsimp only [afterSeq]
    (with_reducible apply Vq.vseq)
    · repeat' (first
      | with_reducible exact Vq.runOps_nil
      | ((with_reducible apply Vq.runOps_cons); exact rfl; (try simp only [St.setS, St.slot, St.setO, St.obj, List.set_cons_succ, List.set_cons_zero, List.getD_cons_succ, List.getD_cons_zero, V.withLeaves, List.headD_cons, V.borrow, freeze1, borrows, borrow1, V.leaves, V.nextg, List.length_cons, List.length_nil, Nat.reduceAdd, Nat.reduceSub, layTup, obj1, splice, List.take_succ_cons, List.take_zero, List.drop_succ_cons, List.drop_zero, List.cons_append, List.nil_append, List.append_nil, Bool.false_eq_true, if_true, if_false, Bool.not_true, Bool.not_false]))
      | ((with_reducible apply Vq.runOps_cons); (apply Vq.vcallL; exact rfl; exact fun _ => rfl; exact fun _ => rfl; exact fun _ => rfl; exact fun _ => rfl; decide; exact rfl; exact rfl; (first | exact h31 _ (by omega)); exact rfl); (try simp only [St.setS, St.slot, St.setO, St.obj, List.set_cons_succ, List.set_cons_zero, List.getD_cons_succ, List.getD_cons_zero, V.withLeaves, List.headD_cons, V.borrow, freeze1, borrows, borrow1, V.leaves, V.nextg, List.length_cons, List.length_nil, Nat.reduceAdd, Nat.reduceSub, layTup, obj1, splice, List.take_succ_cons, List.take_zero, List.drop_succ_cons, List.drop_zero, List.cons_append, List.nil_append, List.append_nil, Bool.false_eq_true, if_true, if_false, Bool.not_true, Bool.not_false]))
      | ((with_reducible apply Vq.runOps_cons); (apply Vq.vcallA; exact rfl; exact fun _ => rfl; exact rfl; (first | exact h31 _ (by omega)); (first | exact rfl | (simp [Vq.V.apart, Vq.V.leaves, Vq.V.noslice]; done) | (simp [Vq.V.apart, Vq.V.leaves, Vq.V.noslice]; assumption)); exact rfl); (try simp only [St.setS, St.slot, St.setO, St.obj, List.set_cons_succ, List.set_cons_zero, List.getD_cons_succ, List.getD_cons_zero, V.withLeaves, List.headD_cons, V.borrow, freeze1, borrows, borrow1, V.leaves, V.nextg, List.length_cons, List.length_nil, Nat.reduceAdd, Nat.reduceSub, layTup, obj1, splice, List.take_succ_cons, List.take_zero, List.drop_succ_cons, List.drop_zero, List.cons_append, List.nil_append, List.append_nil, Bool.false_eq_true, if_true, if_false, Bool.not_true, Bool.not_false]))
      | with_reducible exact Vq.runDraw_nil
      | ((with_reducible apply Vq.runDraw_cons); exact rfl; exact rfl; exact rfl; (try simp only [St.setS, St.slot, St.setO, St.obj, List.set_cons_succ, List.set_cons_zero, List.getD_cons_succ, List.getD_cons_zero, V.withLeaves, List.headD_cons, V.borrow, freeze1, borrows, borrow1, V.leaves, V.nextg, List.length_cons, List.length_nil, Nat.reduceAdd, Nat.reduceSub, layTup, obj1, splice, List.take_succ_cons, List.take_zero, List.drop_succ_cons, List.drop_zero, List.cons_append, List.nil_append, List.append_nil, Bool.false_eq_true, if_true, if_false, Bool.not_true, Bool.not_false]))
      | ((with_reducible apply Vq.vret); exact rfl)
      | ((with_reducible apply Vq.vskip); exact rfl)
      | ((with_reducible apply Vq.vexit); exact rfl)
      | ((with_reducible apply Vq.vregion); case hr => exact rfl)
      | ((with_reducible apply Vq.vdraw); case hr => exact rfl)
      | with_reducible apply Vq.vseq
      | with_reducible apply Vq.vblock
      | ((with_reducible apply Vq.vcond); exact rfl; dsimp only [Vq.pickC])
      | (dsimp only [Vq.afterSeq]; done)
      | ((with_reducible apply Vq.vab0); exact rfl)
      | ((with_reducible apply Vq.vab1); exact rfl)
      | ((with_reducible apply Vq.vabr); exact rfl)
      | ((with_reducible apply Vq.vabx); (· decide); exact rfl)
      | dsimp only [Vq.afterSeq])
    dsimp only [afterSeq]
    (with_reducible apply Vq.vseq)
    · repeat' (first
      | with_reducible exact Vq.runOps_nil
      | ((with_reducible apply Vq.runOps_cons); exact rfl; (try simp only [St.setS, St.slot, St.setO, St.obj, List.set_cons_succ, List.set_cons_zero, List.getD_cons_succ, List.getD_cons_zero, V.withLeaves, List.headD_cons, V.borrow, freeze1, borrows, borrow1, V.leaves, V.nextg, List.length_cons, List.length_nil, Nat.reduceAdd, Nat.reduceSub, layTup, obj1, splice, List.take_succ_cons, List.take_zero, List.drop_succ_cons, List.drop_zero, List.cons_append, List.nil_append, List.append_nil, Bool.false_eq_true, if_true, if_false, Bool.not_true, Bool.not_false, g1, g2, g3]))
      | with_reducible exact Vq.runDraw_nil
      | ((with_reducible apply Vq.runDraw_cons); exact rfl; exact rfl; exact rfl; (try simp only [St.setS, St.slot, St.setO, St.obj, List.set_cons_succ, List.set_cons_zero, List.getD_cons_succ, List.getD_cons_zero, V.withLeaves, List.headD_cons, V.borrow, freeze1, borrows, borrow1, V.leaves, V.nextg, List.length_cons, List.length_nil, Nat.reduceAdd, Nat.reduceSub, layTup, obj1, splice, List.take_succ_cons, List.take_zero, List.drop_succ_cons, List.drop_zero, List.cons_append, List.nil_append, List.append_nil, Bool.false_eq_true, if_true, if_false, Bool.not_true, Bool.not_false, g1, g2, g3]))
      | ((with_reducible apply Vq.vret); exact rfl)
      | ((with_reducible apply Vq.vskip); exact rfl)
      | ((with_reducible apply Vq.vexit); exact rfl)
      | ((with_reducible apply Vq.vregion); case hr => exact rfl)
      | ((with_reducible apply Vq.vdraw); case hr => exact rfl)
      | with_reducible apply Vq.vseq
      | with_reducible apply Vq.vblock
      | ((with_reducible apply Vq.vcond); exact rfl; dsimp only [Vq.pickC])
      | (dsimp only [Vq.afterSeq]; done)
      | ((with_reducible apply Vq.vab0); exact rfl)
      | ((with_reducible apply Vq.vab1); exact rfl)
      | ((with_reducible apply Vq.vabr); exact rfl)
      | ((with_reducible apply Vq.vabx); (· decide); exact rfl)
      | dsimp only [Vq.afterSeq])
    dsimp only [afterSeq]
    (with_reducible apply Vq.vseq)
    · repeat' (first
      | with_reducible exact Vq.runOps_nil
      | ((with_reducible apply Vq.runOps_cons); exact rfl; (try simp only [St.setS, St.slot, St.setO, St.obj, List.set_cons_succ, List.set_cons_zero, List.getD_cons_succ, List.getD_cons_zero, V.withLeaves, List.headD_cons, V.borrow, freeze1, borrows, borrow1, V.leaves, V.nextg, List.length_cons, List.length_nil, Nat.reduceAdd, Nat.reduceSub, layTup, obj1, splice, List.take_succ_cons, List.take_zero, List.drop_succ_cons, List.drop_zero, List.cons_append, List.nil_append, List.append_nil, Bool.false_eq_true, if_true, if_false, Bool.not_true, Bool.not_false]))
      | ((with_reducible apply Vq.runOps_cons); (apply Vq.run_asks; (· simp); (try simp only [List.take_length, List.drop_zero]); apply Vq.run_if trivial; unfold Vq.sHome; simp only [Vq.Prog.run]; apply Vq.run_asks; (· exact Nat.zero_lt_one); apply Vq.run_asks; (· exact ⟨trivial, by (simp; omega)⟩); exact rfl); (try simp only [St.setS, St.slot, St.setO, St.obj, List.set_cons_succ, List.set_cons_zero, List.getD_cons_succ, List.getD_cons_zero, V.withLeaves, List.headD_cons, V.borrow, freeze1, borrows, borrow1, V.leaves, V.nextg, List.length_cons, List.length_nil, Nat.reduceAdd, Nat.reduceSub, layTup, obj1, splice, List.take_succ_cons, List.take_zero, List.drop_succ_cons, List.drop_zero, List.cons_append, List.nil_append, List.append_nil, Bool.false_eq_true, if_true, if_false, Bool.not_true, Bool.not_false]); (try simp only [List.take_length, List.drop_zero]))
      | ((with_reducible apply Vq.runOps_cons); (apply Vq.run_asks; (· exact rfl); apply Vq.run_asks; (· exact ⟨rfl, by (simp; omega)⟩); exact rfl); (try simp only [St.setS, St.slot, St.setO, St.obj, List.set_cons_succ, List.set_cons_zero, List.getD_cons_succ, List.getD_cons_zero, V.withLeaves, List.headD_cons, V.borrow, freeze1, borrows, borrow1, V.leaves, V.nextg, List.length_cons, List.length_nil, Nat.reduceAdd, Nat.reduceSub, layTup, obj1, splice, List.take_succ_cons, List.take_zero, List.drop_succ_cons, List.drop_zero, List.cons_append, List.nil_append, List.append_nil, Bool.false_eq_true, if_true, if_false, Bool.not_true, Bool.not_false]))
      | ((with_reducible apply Vq.runOps_cons); (apply Vq.run_asks; (· exact ⟨rfl, by (simp; omega)⟩); exact rfl); (try simp only [St.setS, St.slot, St.setO, St.obj, List.set_cons_succ, List.set_cons_zero, List.getD_cons_succ, List.getD_cons_zero, V.withLeaves, List.headD_cons, V.borrow, freeze1, borrows, borrow1, V.leaves, V.nextg, List.length_cons, List.length_nil, Nat.reduceAdd, Nat.reduceSub, layTup, obj1, splice, List.take_succ_cons, List.take_zero, List.drop_succ_cons, List.drop_zero, List.cons_append, List.nil_append, List.append_nil, Bool.false_eq_true, if_true, if_false, Bool.not_true, Bool.not_false]))
      | with_reducible exact Vq.runDraw_nil
      | ((with_reducible apply Vq.runDraw_cons); exact rfl; exact rfl; exact rfl; (try simp only [St.setS, St.slot, St.setO, St.obj, List.set_cons_succ, List.set_cons_zero, List.getD_cons_succ, List.getD_cons_zero, V.withLeaves, List.headD_cons, V.borrow, freeze1, borrows, borrow1, V.leaves, V.nextg, List.length_cons, List.length_nil, Nat.reduceAdd, Nat.reduceSub, layTup, obj1, splice, List.take_succ_cons, List.take_zero, List.drop_succ_cons, List.drop_zero, List.cons_append, List.nil_append, List.append_nil, Bool.false_eq_true, if_true, if_false, Bool.not_true, Bool.not_false]))
      | ((with_reducible apply Vq.vret); exact rfl)
      | ((with_reducible apply Vq.vskip); exact rfl)
      | ((with_reducible apply Vq.vexit); exact rfl)
      | ((with_reducible apply Vq.vregion); case hr => exact rfl)
      | ((with_reducible apply Vq.vdraw); case hr => exact rfl)
      | with_reducible apply Vq.vseq
      | with_reducible apply Vq.vblock
      | ((with_reducible apply Vq.vcond); exact rfl; dsimp only [Vq.pickC])
      | (dsimp only [Vq.afterSeq]; done)
      | ((with_reducible apply Vq.vab0); exact rfl)
      | ((with_reducible apply Vq.vab1); exact rfl)
      | ((with_reducible apply Vq.vabr); exact rfl)
      | ((with_reducible apply Vq.vabx); (· decide); exact rfl)
      | dsimp only [Vq.afterSeq])
    dsimp only [afterSeq]
    (with_reducible apply Vq.vseq)
    · (with_reducible apply Vq.vseq)
      · repeat' (first
      | with_reducible exact Vq.runOps_nil
      | ((with_reducible apply Vq.runOps_cons); exact rfl; (try simp only [St.setS, St.slot, St.setO, St.obj, List.set_cons_succ, List.set_cons_zero, List.getD_cons_succ, List.getD_cons_zero, V.withLeaves, List.headD_cons, V.borrow, freeze1, borrows, borrow1, V.leaves, V.nextg, List.length_cons, List.length_nil, Nat.reduceAdd, Nat.reduceSub, layTup, obj1, splice, List.take_succ_cons, List.take_zero, List.drop_succ_cons, List.drop_zero, List.cons_append, List.nil_append, List.append_nil, Bool.false_eq_true, if_true, if_false, Bool.not_true, Bool.not_false]))
      | with_reducible exact Vq.runDraw_nil
      | ((with_reducible apply Vq.runDraw_cons); exact rfl; exact rfl; exact rfl; (try simp only [St.setS, St.slot, St.setO, St.obj, List.set_cons_succ, List.set_cons_zero, List.getD_cons_succ, List.getD_cons_zero, V.withLeaves, List.headD_cons, V.borrow, freeze1, borrows, borrow1, V.leaves, V.nextg, List.length_cons, List.length_nil, Nat.reduceAdd, Nat.reduceSub, layTup, obj1, splice, List.take_succ_cons, List.take_zero, List.drop_succ_cons, List.drop_zero, List.cons_append, List.nil_append, List.append_nil, Bool.false_eq_true, if_true, if_false, Bool.not_true, Bool.not_false]))
      | ((with_reducible apply Vq.vret); exact rfl)
      | ((with_reducible apply Vq.vskip); exact rfl)
      | ((with_reducible apply Vq.vexit); exact rfl)
      | ((with_reducible apply Vq.vregion); case hr => exact rfl)
      | ((with_reducible apply Vq.vdraw); case hr => exact rfl)
      | with_reducible apply Vq.vseq
      | with_reducible apply Vq.vblock
      | ((with_reducible apply Vq.vcond); exact rfl; dsimp only [Vq.pickC])
      | (dsimp only [Vq.afterSeq]; done)
      | ((with_reducible apply Vq.vab0); exact rfl)
      | ((with_reducible apply Vq.vab1); exact rfl)
      | ((with_reducible apply Vq.vabr); exact rfl)
      | ((with_reducible apply Vq.vabx); (· decide); exact rfl)
      | dsimp only [Vq.afterSeq])
      dsimp only [afterSeq]
      (with_reducible apply vblock)
      · exact loopa G B ns S hns (by omega) h36 ns.length 0 m B _ (by omega) (by omega) hno (by omega) rfl
      · apply vabkx (τ := mid11 B (ns.map (V.int .u64)) S (B ++ dgs ns)) rfl
        exact rfl
    dsimp only [afterSeq]
    unfold mid11
    (with_reducible apply Vq.vseq)
    · (with_reducible apply Vq.vseq)
      · repeat' (first
      | with_reducible exact Vq.runOps_nil
      | ((with_reducible apply Vq.runOps_cons); exact rfl; (try simp only [St.setS, St.slot, St.setO, St.obj, List.set_cons_succ, List.set_cons_zero, List.getD_cons_succ, List.getD_cons_zero, V.withLeaves, List.headD_cons, V.borrow, freeze1, borrows, borrow1, V.leaves, V.nextg, List.length_cons, List.length_nil, Nat.reduceAdd, Nat.reduceSub, layTup, obj1, splice, List.take_succ_cons, List.take_zero, List.drop_succ_cons, List.drop_zero, List.cons_append, List.nil_append, List.append_nil, Bool.false_eq_true, if_true, if_false, Bool.not_true, Bool.not_false]))
      | with_reducible exact Vq.runDraw_nil
      | ((with_reducible apply Vq.runDraw_cons); exact rfl; exact rfl; exact rfl; (try simp only [St.setS, St.slot, St.setO, St.obj, List.set_cons_succ, List.set_cons_zero, List.getD_cons_succ, List.getD_cons_zero, V.withLeaves, List.headD_cons, V.borrow, freeze1, borrows, borrow1, V.leaves, V.nextg, List.length_cons, List.length_nil, Nat.reduceAdd, Nat.reduceSub, layTup, obj1, splice, List.take_succ_cons, List.take_zero, List.drop_succ_cons, List.drop_zero, List.cons_append, List.nil_append, List.append_nil, Bool.false_eq_true, if_true, if_false, Bool.not_true, Bool.not_false]))
      | ((with_reducible apply Vq.vret); exact rfl)
      | ((with_reducible apply Vq.vskip); exact rfl)
      | ((with_reducible apply Vq.vexit); exact rfl)
      | ((with_reducible apply Vq.vregion); case hr => exact rfl)
      | ((with_reducible apply Vq.vdraw); case hr => exact rfl)
      | with_reducible apply Vq.vseq
      | with_reducible apply Vq.vblock
      | ((with_reducible apply Vq.vcond); exact rfl; dsimp only [Vq.pickC])
      | (dsimp only [Vq.afterSeq]; done)
      | ((with_reducible apply Vq.vab0); exact rfl)
      | ((with_reducible apply Vq.vab1); exact rfl)
      | ((with_reducible apply Vq.vabr); exact rfl)
      | ((with_reducible apply Vq.vabx); (· decide); exact rfl)
      | dsimp only [Vq.afterSeq])
      dsimp only [afterSeq]
      (with_reducible apply vblock)
      · exact loopb G B (ns.map (V.int .u64)) ss (by omega) hx h37 ss.length 0 m (B ++ dgs ns) _ (by omega) (by simp; omega) (by omega) rfl
      · apply vabkx (τ := mid11 B (ns.map (V.int .u64)) (ss.map V.str) (B ++ dgs ns ++ txs ss)) rfl
        exact rfl
    dsimp only [afterSeq]
    unfold mid11
    (with_reducible apply Vq.vseq)
    · (with_reducible apply Vq.vregion); case hr => exact rfl
      (with_reducible apply Vq.runOps_cons)
      exact rfl
      (try simp only [St.setS, St.slot, St.setO, St.obj, List.set_cons_succ, List.set_cons_zero, List.getD_cons_succ, List.getD_cons_zero, V.withLeaves, List.headD_cons, V.borrow, freeze1, borrows, borrow1, V.leaves, V.nextg, List.length_cons, List.length_nil, Nat.reduceAdd, Nat.reduceSub, layTup, obj1, splice, List.take_succ_cons, List.take_zero, List.drop_succ_cons, List.drop_zero, List.cons_append, List.nil_append, List.append_nil, Bool.false_eq_true, if_true, if_false, Bool.not_true, Bool.not_false])
      (with_reducible apply Vq.runOps_cons)
      · apply vtextI rfl hTB
        exact rfl
      (try simp only [St.setS, St.slot, St.setO, St.obj, List.set_cons_succ, List.set_cons_zero, List.getD_cons_succ, List.getD_cons_zero, V.withLeaves, List.headD_cons, V.borrow, freeze1, borrows, borrow1, V.leaves, V.nextg, List.length_cons, List.length_nil, Nat.reduceAdd, Nat.reduceSub, layTup, obj1, splice, List.take_succ_cons, List.take_zero, List.drop_succ_cons, List.drop_zero, List.cons_append, List.nil_append, List.append_nil, Bool.false_eq_true, if_true, if_false, Bool.not_true, Bool.not_false])
      repeat' (first
      | with_reducible exact Vq.runOps_nil
      | ((with_reducible apply Vq.runOps_cons); exact rfl; (try simp only [St.setS, St.slot, St.setO, St.obj, List.set_cons_succ, List.set_cons_zero, List.getD_cons_succ, List.getD_cons_zero, V.withLeaves, List.headD_cons, V.borrow, freeze1, borrows, borrow1, V.leaves, V.nextg, List.length_cons, List.length_nil, Nat.reduceAdd, Nat.reduceSub, layTup, obj1, splice, List.take_succ_cons, List.take_zero, List.drop_succ_cons, List.drop_zero, List.cons_append, List.nil_append, List.append_nil, Bool.false_eq_true, if_true, if_false, Bool.not_true, Bool.not_false]))
      | with_reducible exact Vq.runDraw_nil
      | ((with_reducible apply Vq.runDraw_cons); exact rfl; exact rfl; exact rfl; (try simp only [St.setS, St.slot, St.setO, St.obj, List.set_cons_succ, List.set_cons_zero, List.getD_cons_succ, List.getD_cons_zero, V.withLeaves, List.headD_cons, V.borrow, freeze1, borrows, borrow1, V.leaves, V.nextg, List.length_cons, List.length_nil, Nat.reduceAdd, Nat.reduceSub, layTup, obj1, splice, List.take_succ_cons, List.take_zero, List.drop_succ_cons, List.drop_zero, List.cons_append, List.nil_append, List.append_nil, Bool.false_eq_true, if_true, if_false, Bool.not_true, Bool.not_false]))
      | ((with_reducible apply Vq.vret); exact rfl)
      | ((with_reducible apply Vq.vskip); exact rfl)
      | ((with_reducible apply Vq.vexit); exact rfl)
      | ((with_reducible apply Vq.vregion); case hr => exact rfl)
      | ((with_reducible apply Vq.vdraw); case hr => exact rfl)
      | with_reducible apply Vq.vseq
      | with_reducible apply Vq.vblock
      | ((with_reducible apply Vq.vcond); exact rfl; dsimp only [Vq.pickC])
      | (dsimp only [Vq.afterSeq]; done)
      | ((with_reducible apply Vq.vab0); exact rfl)
      | ((with_reducible apply Vq.vab1); exact rfl)
      | ((with_reducible apply Vq.vabr); exact rfl)
      | ((with_reducible apply Vq.vabx); (· decide); exact rfl)
      | dsimp only [Vq.afterSeq])
    dsimp only [afterSeq]
    (with_reducible apply Vq.vseq)
    · (with_reducible apply vdraw)
      case hr => exact rfl
      apply Vq.runDraw_cons
      exact rfl
      exact rfl
      exact rfl
      (try simp only [St.setS, St.slot, St.setO, St.obj, List.set_cons_succ, List.set_cons_zero, List.getD_cons_succ, List.getD_cons_zero, V.withLeaves, List.headD_cons, V.borrow, freeze1, borrows, borrow1, V.leaves, V.nextg, List.length_cons, List.length_nil, Nat.reduceAdd, Nat.reduceSub, layTup, obj1, splice, List.take_succ_cons, List.take_zero, List.drop_succ_cons, List.drop_zero, List.cons_append, List.nil_append, List.append_nil, Bool.false_eq_true, if_true, if_false, Bool.not_true, Bool.not_false])
      apply Vq.runDraw_cons
      exact rfl
      exact rfl
      exact rfl
      (try simp only [St.setS, St.slot, St.setO, St.obj, List.set_cons_succ, List.set_cons_zero, List.getD_cons_succ, List.getD_cons_zero, V.withLeaves, List.headD_cons, V.borrow, freeze1, borrows, borrow1, V.leaves, V.nextg, List.length_cons, List.length_nil, Nat.reduceAdd, Nat.reduceSub, layTup, obj1, splice, List.take_succ_cons, List.take_zero, List.drop_succ_cons, List.drop_zero, List.cons_append, List.nil_append, List.append_nil, Bool.false_eq_true, if_true, if_false, Bool.not_true, Bool.not_false])
      apply runDraw_cons
      · apply vcallA_foot (rs := [.slot 58, .slot 59]) rfl (fun _ => rfl) rfl (h35 m (by omega)) (by simp [V.apart, V.leaves]; exact ⟨hno, hns2⟩)
        exact rfl
      · exact rfl
      · apply vcallA rfl (fun _ => rfl) rfl (h35 m (by omega)) (by simp [V.apart, V.leaves]; exact ⟨hno, hns2⟩)
        exact rfl
      (try simp only [St.setS, St.slot, St.setO, St.obj, List.set_cons_succ, List.set_cons_zero, List.getD_cons_succ, List.getD_cons_zero, V.withLeaves, List.headD_cons, V.borrow, freeze1, borrows, borrow1, V.leaves, V.nextg, List.length_cons, List.length_nil, Nat.reduceAdd, Nat.reduceSub, layTup, obj1, splice, List.take_succ_cons, List.take_zero, List.drop_succ_cons, List.drop_zero, List.cons_append, List.nil_append, List.append_nil, Bool.false_eq_true, if_true, if_false, Bool.not_true, Bool.not_false])
      apply Vq.runDraw_cons
      exact rfl
      exact rfl
      exact rfl
      (try simp only [St.setS, St.slot, St.setO, St.obj, List.set_cons_succ, List.set_cons_zero, List.getD_cons_succ, List.getD_cons_zero, V.withLeaves, List.headD_cons, V.borrow, freeze1, borrows, borrow1, V.leaves, V.nextg, List.length_cons, List.length_nil, Nat.reduceAdd, Nat.reduceSub, layTup, obj1, splice, List.take_succ_cons, List.take_zero, List.drop_succ_cons, List.drop_zero, List.cons_append, List.nil_append, List.append_nil, Bool.false_eq_true, if_true, if_false, Bool.not_true, Bool.not_false])
      apply runDraw_cons
      · apply vcallA_foot (rs := [.slot 60, .slot 61]) rfl (fun _ => rfl) rfl (h38 m (by omega)) (by simp [V.apart, V.leaves]; exact ⟨hno, hns2, hns3⟩)
        exact rfl
      · exact rfl
      · apply vcallA rfl (fun _ => rfl) rfl (h38 m (by omega)) (by simp [V.apart, V.leaves]; exact ⟨hno, hns2, hns3⟩)
        exact rfl
      (try simp only [St.setS, St.slot, St.setO, St.obj, List.set_cons_succ, List.set_cons_zero, List.getD_cons_succ, List.getD_cons_zero, V.withLeaves, List.headD_cons, V.borrow, freeze1, borrows, borrow1, V.leaves, V.nextg, List.length_cons, List.length_nil, Nat.reduceAdd, Nat.reduceSub, layTup, obj1, splice, List.take_succ_cons, List.take_zero, List.drop_succ_cons, List.drop_zero, List.cons_append, List.nil_append, List.append_nil, Bool.false_eq_true, if_true, if_false, Bool.not_true, Bool.not_false])
      apply runDraw_cons
      · apply vtext_foot rfl rfl hT
        exact rfl
      · exact rfl
      · apply vtext rfl rfl hT
        exact rfl
      (try simp only [St.setS, St.slot, St.setO, St.obj, List.set_cons_succ, List.set_cons_zero, List.getD_cons_succ, List.getD_cons_zero, V.withLeaves, List.headD_cons, V.borrow, freeze1, borrows, borrow1, V.leaves, V.nextg, List.length_cons, List.length_nil, Nat.reduceAdd, Nat.reduceSub, layTup, obj1, splice, List.take_succ_cons, List.take_zero, List.drop_succ_cons, List.drop_zero, List.cons_append, List.nil_append, List.append_nil, Bool.false_eq_true, if_true, if_false, Bool.not_true, Bool.not_false])
      apply Vq.runDraw_cons
      exact rfl
      exact rfl
      exact rfl
      (try simp only [St.setS, St.slot, St.setO, St.obj, List.set_cons_succ, List.set_cons_zero, List.getD_cons_succ, List.getD_cons_zero, V.withLeaves, List.headD_cons, V.borrow, freeze1, borrows, borrow1, V.leaves, V.nextg, List.length_cons, List.length_nil, Nat.reduceAdd, Nat.reduceSub, layTup, obj1, splice, List.take_succ_cons, List.take_zero, List.drop_succ_cons, List.drop_zero, List.cons_append, List.nil_append, List.append_nil, Bool.false_eq_true, if_true, if_false, Bool.not_true, Bool.not_false])
      apply runDraw_cons
      · apply vtextR_foot (es := B ++ dgs ns ++ txs ss) (y := 7) (g := 0) rfl rfl hT
        exact rfl
      · exact rfl
      · apply vtextR (es := B ++ dgs ns ++ txs ss) (y := 7) (g := 0) rfl rfl hT
        exact rfl
      (try simp only [St.setS, St.slot, St.setO, St.obj, List.set_cons_succ, List.set_cons_zero, List.getD_cons_succ, List.getD_cons_zero, V.withLeaves, List.headD_cons, V.borrow, freeze1, borrows, borrow1, V.leaves, V.nextg, List.length_cons, List.length_nil, Nat.reduceAdd, Nat.reduceSub, layTup, obj1, splice, List.take_succ_cons, List.take_zero, List.drop_succ_cons, List.drop_zero, List.cons_append, List.nil_append, List.append_nil, Bool.false_eq_true, if_true, if_false, Bool.not_true, Bool.not_false])
      apply Vq.runDraw_cons
      exact rfl
      exact rfl
      exact rfl
      (try simp only [St.setS, St.slot, St.setO, St.obj, List.set_cons_succ, List.set_cons_zero, List.getD_cons_succ, List.getD_cons_zero, V.withLeaves, List.headD_cons, V.borrow, freeze1, borrows, borrow1, V.leaves, V.nextg, List.length_cons, List.length_nil, Nat.reduceAdd, Nat.reduceSub, layTup, obj1, splice, List.take_succ_cons, List.take_zero, List.drop_succ_cons, List.drop_zero, List.cons_append, List.nil_append, List.append_nil, Bool.false_eq_true, if_true, if_false, Bool.not_true, Bool.not_false, beq_self_eq_true])
      apply Vq.runDraw_cons
      exact rfl
      exact rfl
      exact rfl
      (try simp only [St.setS, St.slot, St.setO, St.obj, List.set_cons_succ, List.set_cons_zero, List.getD_cons_succ, List.getD_cons_zero, V.withLeaves, List.headD_cons, V.borrow, freeze1, borrows, borrow1, V.leaves, V.nextg, List.length_cons, List.length_nil, Nat.reduceAdd, Nat.reduceSub, layTup, obj1, splice, List.take_succ_cons, List.take_zero, List.drop_succ_cons, List.drop_zero, List.cons_append, List.nil_append, List.append_nil, Bool.false_eq_true, if_true, if_false, Bool.not_true, Bool.not_false, beq_self_eq_true])
      apply Vq.runDraw_cons
      exact rfl
      exact rfl
      exact rfl
      (try simp only [St.setS, St.slot, St.setO, St.obj, List.set_cons_succ, List.set_cons_zero, List.getD_cons_succ, List.getD_cons_zero, V.withLeaves, List.headD_cons, V.borrow, freeze1, borrows, borrow1, V.leaves, V.nextg, List.length_cons, List.length_nil, Nat.reduceAdd, Nat.reduceSub, layTup, obj1, splice, List.take_succ_cons, List.take_zero, List.drop_succ_cons, List.drop_zero, List.cons_append, List.nil_append, List.append_nil, Bool.false_eq_true, if_true, if_false, Bool.not_true, Bool.not_false])
      apply runDraw_cons
      · apply vguard_foot rfl
        apply vtextI_foot rfl hTB
        exact rfl
      · exact rfl
      · apply vguard rfl
        apply vtextI rfl hTB
        exact rfl
      (try simp only [St.setS, St.slot, St.setO, St.obj, List.set_cons_succ, List.set_cons_zero, List.getD_cons_succ, List.getD_cons_zero, V.withLeaves, List.headD_cons, V.borrow, freeze1, borrows, borrow1, V.leaves, V.nextg, List.length_cons, List.length_nil, Nat.reduceAdd, Nat.reduceSub, layTup, obj1, splice, List.take_succ_cons, List.take_zero, List.drop_succ_cons, List.drop_zero, List.cons_append, List.nil_append, List.append_nil, Bool.false_eq_true, if_true, if_false, Bool.not_true, Bool.not_false])
      apply Vq.runDraw_cons
      exact rfl
      exact rfl
      exact rfl
      (try simp only [St.setS, St.slot, St.setO, St.obj, List.set_cons_succ, List.set_cons_zero, List.getD_cons_succ, List.getD_cons_zero, V.withLeaves, List.headD_cons, V.borrow, freeze1, borrows, borrow1, V.leaves, V.nextg, List.length_cons, List.length_nil, Nat.reduceAdd, Nat.reduceSub, layTup, obj1, splice, List.take_succ_cons, List.take_zero, List.drop_succ_cons, List.drop_zero, List.cons_append, List.nil_append, List.append_nil, Bool.false_eq_true, if_true, if_false, Bool.not_true, Bool.not_false])
      apply Vq.runDraw_cons
      exact rfl
      exact rfl
      exact rfl
      (try simp only [St.setS, St.slot, St.setO, St.obj, List.set_cons_succ, List.set_cons_zero, List.getD_cons_succ, List.getD_cons_zero, V.withLeaves, List.headD_cons, V.borrow, freeze1, borrows, borrow1, V.leaves, V.nextg, List.length_cons, List.length_nil, Nat.reduceAdd, Nat.reduceSub, layTup, obj1, splice, List.take_succ_cons, List.take_zero, List.drop_succ_cons, List.drop_zero, List.cons_append, List.nil_append, List.append_nil, Bool.false_eq_true, if_true, if_false, Bool.not_true, Bool.not_false, beq_self_eq_true])
      apply Vq.runDraw_cons
      exact rfl
      exact rfl
      exact rfl
      (try simp only [St.setS, St.slot, St.setO, St.obj, List.set_cons_succ, List.set_cons_zero, List.getD_cons_succ, List.getD_cons_zero, V.withLeaves, List.headD_cons, V.borrow, freeze1, borrows, borrow1, V.leaves, V.nextg, List.length_cons, List.length_nil, Nat.reduceAdd, Nat.reduceSub, layTup, obj1, splice, List.take_succ_cons, List.take_zero, List.drop_succ_cons, List.drop_zero, List.cons_append, List.nil_append, List.append_nil, Bool.false_eq_true, if_true, if_false, Bool.not_true, Bool.not_false])
      apply Vq.runDraw_cons
      exact rfl
      exact rfl
      exact rfl
      (try simp only [St.setS, St.slot, St.setO, St.obj, List.set_cons_succ, List.set_cons_zero, List.getD_cons_succ, List.getD_cons_zero, V.withLeaves, List.headD_cons, V.borrow, freeze1, borrows, borrow1, V.leaves, V.nextg, List.length_cons, List.length_nil, Nat.reduceAdd, Nat.reduceSub, layTup, obj1, splice, List.take_succ_cons, List.take_zero, List.drop_succ_cons, List.drop_zero, List.cons_append, List.nil_append, List.append_nil, Bool.false_eq_true, if_true, if_false, Bool.not_true, Bool.not_false])
      exact runDraw_nil
    dsimp only [afterSeq]
    repeat' (first
      | with_reducible exact Vq.runOps_nil
      | ((with_reducible apply Vq.runOps_cons); exact rfl; (try simp only [St.setS, St.slot, St.setO, St.obj, List.set_cons_succ, List.set_cons_zero, List.getD_cons_succ, List.getD_cons_zero, V.withLeaves, List.headD_cons, V.borrow, freeze1, borrows, borrow1, V.leaves, V.nextg, List.length_cons, List.length_nil, Nat.reduceAdd, Nat.reduceSub, layTup, obj1, splice, List.take_succ_cons, List.take_zero, List.drop_succ_cons, List.drop_zero, List.cons_append, List.nil_append, List.append_nil, Bool.false_eq_true, if_true, if_false, Bool.not_true, Bool.not_false]))
      | with_reducible exact Vq.runDraw_nil
      | ((with_reducible apply Vq.runDraw_cons); exact rfl; exact rfl; exact rfl; (try simp only [St.setS, St.slot, St.setO, St.obj, List.set_cons_succ, List.set_cons_zero, List.getD_cons_succ, List.getD_cons_zero, V.withLeaves, List.headD_cons, V.borrow, freeze1, borrows, borrow1, V.leaves, V.nextg, List.length_cons, List.length_nil, Nat.reduceAdd, Nat.reduceSub, layTup, obj1, splice, List.take_succ_cons, List.take_zero, List.drop_succ_cons, List.drop_zero, List.cons_append, List.nil_append, List.append_nil, Bool.false_eq_true, if_true, if_false, Bool.not_true, Bool.not_false]))
      | ((with_reducible apply Vq.vret); exact rfl)
      | ((with_reducible apply Vq.vskip); exact rfl)
      | ((with_reducible apply Vq.vexit); exact rfl)
      | ((with_reducible apply Vq.vregion); case hr => exact rfl)
      | ((with_reducible apply Vq.vdraw); case hr => exact rfl)
      | with_reducible apply Vq.vseq
      | with_reducible apply Vq.vblock
      | ((with_reducible apply Vq.vcond); exact rfl; dsimp only [Vq.pickC])
      | (dsimp only [Vq.afterSeq]; done)
      | ((with_reducible apply Vq.vab0); exact rfl)
      | ((with_reducible apply Vq.vab1); exact rfl)
      | ((with_reducible apply Vq.vabr); exact rfl)
      | ((with_reducible apply Vq.vabx); (· decide); exact rfl)
      | dsimp only [Vq.afterSeq])
  · exact .inr rfl
  · first | exact rfl | (apply Vq.vfin; (· apply Vq.run_asks; (· simp); (try simp only [List.take_length, List.drop_zero]); (first | apply Vq.run_if trivial | apply Vq.run_if rfl); unfold Vq.sHome; simp only [Vq.Prog.run]; apply Vq.run_asks; (· exact Nat.zero_lt_one); exact rfl); (· exact rfl); (· exact rfl); (· decide); (· exact rfl); (· exact rfl))
end
end S6
end Go.Vq

namespace Go.Vq
namespace S7
open Go S2 S3 S4 S5 S6
theorem textV_ex : ∀ {es : List V}, (∀ x ∈ es, ∃ n, x = .int .u8 n) → ∃ s, textV es = some s
  | [], _ => ⟨[], rfl⟩
  | x :: es, h => by
    obtain ⟨n, rfl⟩ := h x (by simp)
    obtain ⟨s, hs⟩ := textV_ex (es := es) fun y hy => h y (by simp [hy])
    exact ⟨UInt8.ofNat n.toNat :: s, by simp only [textV, hs, Option.map_some]⟩
def isB (x : V) : Prop := ∃ n, x = .int .u8 n
theorem isB_app {a b : List V} (ha : ∀ x ∈ a, isB x) (hb : ∀ x ∈ b, isB x) : ∀ x ∈ a ++ b, isB x := by
  intro x hx
  rcases List.mem_append.1 hx with hx | hx
  · exact ha x hx
  · exact hb x hx
theorem isB_pre : ∀ k n, ∀ x ∈ pre k n, isB x := by
  intro k
  induction k with
  | zero => intro n x hx; simp [pre] at hx
  | succ k ih =>
    intro n x hx
    unfold pre at hx
    split at hx
    · rcases List.mem_cons.1 hx with rfl | hx
      · exact ⟨_, rfl⟩
      · exact ih _ x hx
    · cases hx
theorem isB_dg (n : Int) : ∀ x ∈ dg n, isB x := isB_app (isB_pre _ _) fun x hx => by simp at hx; exact ⟨_, hx⟩
theorem isB_dgs (ns : List Int) : ∀ x ∈ dgs ns, isB x := by
  intro x hx
  simp only [dgs, List.mem_flatMap] at hx
  obtain ⟨n, _, hx⟩ := hx
  exact isB_dg n x hx
theorem isB_bytes (s : List UInt8) : ∀ x ∈ bytesV s, isB x := by
  intro x hx
  simp only [bytesV, List.mem_map] at hx
  obtain ⟨b, _, rfl⟩ := hx
  exact ⟨_, rfl⟩
theorem isB_txs (ss : List (List UInt8)) : ∀ x ∈ txs ss, isB x := by
  intro x hx
  simp only [txs, List.mem_flatMap] at hx
  obtain ⟨s, _, hx⟩ := hx
  exact isB_app (isB_dg _) (isB_bytes _) x hx
theorem isB_ints (ns : List Int) : ∀ x ∈ ns.map (V.int .u8), isB x := by
  intro x hx
  obtain ⟨n, _, rfl⟩ := List.mem_map.1 hx
  exact ⟨n, rfl⟩
theorem isB.noslice {x : V} (h : isB x) : x.noslice = true := by obtain ⟨n, rfl⟩ := h; rfl
theorem all11 (G : VProg) (hG : G 11 = some (.code v11)) (M : Nat) (h31 : ∀ m, M ≤ m → call G m 31 [] [] = some (.bool true, [])) (g35 : G 35 = some (.code S2.v35)) (g36 : G 36 = some (.code v36)) (g37 : G 37 = some (.code v37)) (g38 : G 38 = some (.code v38))
    (h53 : ∀ m es, es.length ≤ 140737488355328 → call G m 53 [.isl 0 1 es] [] = some (.xsl 0 1 es, []))
    (bs ns : List Int) (ss : List (List UInt8)) (hns : ∀ n ∈ ns, 0 ≤ n ∧ n < 18446744073709551616) (m : Nat) (hm : M + 60 ≤ m) :
    call G m 11 [.isl 0 1 (bs.map (V.int .u8)), .isl 0 1 (ns.map (V.int .u64)), .isl 0 1 (ss.map V.str)] [] = some (.bool true, []) := by
  have hb : ∀ x ∈ bs.map (V.int .u8), x.noslice = true := fun x hx => (isB_ints bs x hx).noslice
  have h36 := num36 G g36
  have h36' : ∀ n m, 0 ≤ n → n < 18446744073709551616 → 12 ≤ m → call G m 36 [.int .u64 n] [] = some (.xsl 0 1 (dg n), []) := fun n m a b c => h36 n a b m c
  have h37 : ∀ s m, s.length ≤ 1000 → 13 ≤ m → call G m 37 [.str s] [] = some (.xsl 0 1 (tx s), []) := fun s m a b => text37 G g37 h36' s a m b
  cases g1 : decide (((bs.map (V.int .u8)).length : Int) > 200) with
  | true => exact out1 G hG M h31 _ _ _ g1 m hm
  | false =>
  cases g2 : decide (((ns.map (V.int .u64)).length : Int) > 30) with
  | true => exact out2 G hG M h31 _ _ _ g1 g2 m hm
  | false =>
  cases g3 : decide (((ss.map V.str).length : Int) > 30) with
  | true => exact out3 G hG M h31 _ _ _ g1 g2 g3 m hm
  | false =>
  have g1' := of_decide_eq_false g1
  have g2' := of_decide_eq_false g2
  have g3' := of_decide_eq_false g3
  simp only [List.length_map] at g1' g2' g3'
  by_cases hx : ∃ s ∈ ss, 300 < s.length
  · exact out4 G hG M h31 h36' h37 _ hb ns ss hns g1 g2 g3 hx m hm
  · have hx' : ∀ s ∈ ss, s.length ≤ 300 := fun s hs => Nat.le_of_not_lt fun h => hx ⟨s, hs, h⟩
    have hd := dgs_len ns
    have hB := isB_app (isB_app (isB_ints bs) (isB_dgs ns)) (isB_txs ss)
    obtain ⟨T, hT⟩ := textV_ex hB
    obtain ⟨TB, hTB⟩ := textV_ex (isB_ints bs)
    have h35 : ∀ m, 50 ≤ m → call G m 35 [.isl 0 1 (bs.map (V.int .u8)), .isl 0 1 (ns.map (V.int .u64))] [] = some (.xsl 0 1 (bs.map (V.int .u8) ++ dgs ns), []) :=
      fun m hm => num35 G g35 h53 ns hns _ hb (by simp; omega) m (by omega)
    have h38 : ∀ m, 50 ≤ m → call G m 38 [.isl 0 1 (bs.map (V.int .u8) ++ dgs ns), .isl 0 1 (ss.map V.str)] [] = some (.xsl 0 1 (bs.map (V.int .u8) ++ dgs ns ++ txs ss), []) :=
      fun m hm => text38 G g38 h53 ss (by omega) (fun s hs => by have := hx' s hs; omega)
        (fun n out m h0 hn hno hl hm => num35 G g35 h53 [n] (by simpa using ⟨h0, hn⟩) out hno (by simp; omega) m (by simpa using hm)) _ (noslice_app hb (noslice_dgs ns)) (by simp; omega) m (by omega)
    exact out5 G hG M h31 h36' h37 _ hb ns ss hns h35 h38 T TB hT hTB g1 g2 g3 hx' m hm
end S7
end Go.Vq

