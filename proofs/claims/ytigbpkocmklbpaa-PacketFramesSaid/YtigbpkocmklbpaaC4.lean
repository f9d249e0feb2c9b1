/- The V-level machine, run on values that are not known (no law of Go is stated here). -/
import Derived.Test.YtigbpkocmklbpaaC3
import Derived.KernelRfl
set_option linter.unusedVariables false
set_option linter.unusedSimpArgs false
set_option linter.unusedSectionVars false
namespace Go.Vq
namespace S13
open Go S2 S3 S4 S5 S6 S7 S8 S9 S10 S11 S12
set_option maxRecDepth 1000000
def b34 : VCode := S11.b34
def body34 : VCode := (.seq (.region [{ dst := (some 14), op := .bin (.lss) (.tmp 13) (.val (.int .i64 2)), guard := none, before := 0 }] false) (.seq (.cond (.tmp 14) (.skip) (.exit 0)) (.seq (.block 1 none (.seq (.region [{ dst := (some 15), op := .move (.tmp 13), guard := none, before := 0 }, { dst := (some 16), op := .indexArr 2 1 false (.tmp 12) (.tmp 13), guard := none, before := 0 }, { dst := (some 5), op := .assign (.tmp 15), guard := none, before := 3 }, { dst := (some 6), op := .assign (.tmp 16), guard := none, before := 7 }] false) (.seq (.region [{ dst := (some 17), op := .move (.tmp 5), guard := none, before := 0 }, { dst := (some 18), op := .move (.tmp 0), guard := none, before := 0 }, { dst := (some 19), op := .len (.slc 1) (.tmp 18), guard := none, before := 2 }, { dst := (some 20), op := .bin (.lss) (.tmp 17) (.tmp 19), guard := none, before := 7 }, { dst := (some 21), op := .move (.tmp 20), guard := none, before := 15 }, { dst := (some 22), op := .move (.tmp 0), guard := (some (21, true)), before := 31 }, { dst := (some 23), op := .move (.tmp 5), guard := (some (21, true)), before := 31 }, { dst := (some 24), op := .indexAddr none 1 (.tmp 22) (.tmp 23), guard := (some (21, true)), before := 127 }, { dst := (some 25), op := .load false 1 (.tmp 24), guard := (some (21, true)), before := 255 }, { dst := (some 26), op := .move (.tmp 6), guard := (some (21, true)), before := 31 }, { dst := (some 27), op := .eq true (.num) (.tmp 25) (.tmp 26), guard := (some (21, true)), before := 1023 }, { dst := (some 28), op := .pick (.tmp 21) (.tmp 27) (.val (.bool false)), guard := none, before := 2047 }] false) (.cond (.tmp 28) (.seq (.region [{ dst := (some 29), op := .build [(.int .u8 0), (.nilS 1)] [], guard := none, before := 0 }, { dst := none, op := .store 2 (.tmp 2) (.tmp 29), guard := none, before := 1 }, { dst := (some 3), op := .assign (.val (.int .i64 0)), guard := none, before := 3 }, { dst := (some 4), op := .assign (.val (.int .i64 62)), guard := none, before := 7 }] false) (.ret)) (.skip))))) (.region [{ dst := (some 30), op := .bin (.add) (.tmp 13) (.val (.int .i64 1)), guard := none, before := 0 }, { dst := (some 13), op := .move (.tmp 30), guard := none, before := 1 }] false))))
def o34 : Obj := .cells [.int .u8 0, .xsl 0 1 []]
def st34 (l : List Nat) (i : Int) : St :=
  { slots := (.isl 0 1 (byN l) :: .gone 0 :: .ptr (.obj 0 0) :: .gone 0 :: .gone 0 :: .gone 0 :: .gone 0 :: .gone 0 :: .gone 0 :: .gone 0 :: .gone 0 :: .gone 0 :: .agg [.int .u8 167, .int .u8 1] :: .int .i64 i :: .gone 0 :: .gone 0 :: .gone 0 :: .gone 0 :: .gone 0 :: .gone 0 :: .gone 0 :: .gone 0 :: .gone 0 :: .gone 0 :: .gone 0 :: .gone 0 :: .gone 0 :: .gone 0 :: .gone 0 :: .gone 0 :: .gone 0 :: .gone 0 :: .gone 0 :: .gone 0 :: .gone 0 :: .gone 0 :: .gone 0 :: .gone 0 :: .gone 0 :: .gone 0 :: .gone 0 :: .gone 0 :: .gone 0 :: .gone 0 :: .gone 0 :: .gone 0 :: .gone 0 :: .gone 0 :: .gone 0 :: .gone 0 :: .gone 0 :: .gone 0 :: .gone 0 :: .gone 0 :: .gone 0 :: .gone 0 :: .gone 0 :: .gone 0 :: .gone 0 :: .gone 0 :: .gone 0 :: .gone 0 :: .gone 0 :: .gone 0 :: .gone 0 :: .gone 0 :: .gone 0 :: .gone 0 :: .gone 0 :: .gone 0 :: .gone 0 :: .gone 0 :: .gone 0 :: .gone 0 :: .gone 0 :: .gone 0 :: .gone 0 :: .gone 0 :: .gone 0 :: .gone 0 :: .gone 0 :: .gone 0 :: .gone 0 :: .gone 0 :: .gone 0 :: .gone 0 :: .gone 0 :: .gone 0 :: .gone 0 :: .gone 0 :: .gone 0 :: .gone 0 :: .gone 0 :: .gone 0 :: .gone 0 :: .gone 0 :: .gone 0 :: .gone 0 :: .gone 0 :: .gone 0 :: []), objs := [some o34] }
def ex34 (l : List Nat) : St :=
  { slots := (.isl 0 1 (byN l) :: .gone 0 :: .ptr (.obj 0 0) :: .gone 0 :: .gone 0 :: .gone 0 :: .gone 0 :: .gone 0 :: .gone 0 :: .gone 0 :: .gone 0 :: .gone 0 :: .agg [.int .u8 167, .int .u8 1] :: .int .i64 2 :: .bool false :: .gone 0 :: .gone 0 :: .gone 0 :: .gone 0 :: .gone 0 :: .gone 0 :: .gone 0 :: .gone 0 :: .gone 0 :: .gone 0 :: .gone 0 :: .gone 0 :: .gone 0 :: .gone 0 :: .gone 0 :: .gone 0 :: .gone 0 :: .gone 0 :: .gone 0 :: .gone 0 :: .gone 0 :: .gone 0 :: .gone 0 :: .gone 0 :: .gone 0 :: .gone 0 :: .gone 0 :: .gone 0 :: .gone 0 :: .gone 0 :: .gone 0 :: .gone 0 :: .gone 0 :: .gone 0 :: .gone 0 :: .gone 0 :: .gone 0 :: .gone 0 :: .gone 0 :: .gone 0 :: .gone 0 :: .gone 0 :: .gone 0 :: .gone 0 :: .gone 0 :: .gone 0 :: .gone 0 :: .gone 0 :: .gone 0 :: .gone 0 :: .gone 0 :: .gone 0 :: .gone 0 :: .gone 0 :: .gone 0 :: .gone 0 :: .gone 0 :: .gone 0 :: .gone 0 :: .gone 0 :: .gone 0 :: .gone 0 :: .gone 0 :: .gone 0 :: .gone 0 :: .gone 0 :: .gone 0 :: .gone 0 :: .gone 0 :: .gone 0 :: .gone 0 :: .gone 0 :: .gone 0 :: .gone 0 :: .gone 0 :: .gone 0 :: .gone 0 :: .gone 0 :: .gone 0 :: .gone 0 :: .gone 0 :: .gone 0 :: .gone 0 :: .gone 0 :: .gone 0 :: []), objs := [some o34] }
section
variable {cal : Callee} {σ τ : St} {base : Nat}
theorem vidx_foot {d : Option Nat} {t x sz g bf : Nat} {es : List V} {e : V} {k : IntKind} {m : Int} {rs : List Loc} {fr : List Loc × List Loc} (hx : σ.slot t = .isl g sz es) (hi : σ.slot x = .int k m) (h0 : 0 ≤ m) (he : es[m.toNat]? = some e) (hp : (putO d (.iptr e.cells) .ret).foot σ = fr) (hrs : rs = [.slot x, .slot t] := by rfl) :
    (VOper.prog cal base ⟨d, .indexAddr none sz (.tmp t) (.tmp x), none, bf⟩).foot σ = (rs ++ fr.1, fr.2) := by
  subst hrs
  simp only [VOper.prog, opProg, gInt, gOpd, Prog.foot, hx, hi]
  rw [if_pos ⟨h0, trivial⟩, he]
  simp only [hp]
  rfl
end
variable (cal : Callee) (its : FuncId → Iter) (again : Nat → VCode → St → Option (Out × St))
theorem rnd0 (l : List Nat) (h0 : (byN l)[(0 : Int).toNat]? = some (.int .u8 167)) (hlt : decide ((0 : Int) < ((byN l).length : Int)) = true) :
    ∃ s, step cal its again 0 body34 (st34 l 0) = some (.normal, s) ∧ rebase? (some [0, 2, 12, 13]) 0 s = st34 l 1 := by
  unfold body34 st34
  apply vround
  · (with_reducible apply Vq.vseq)
    · repeat' (((first
      | (with_reducible exact Vq.runOps_nil)
      | ((with_reducible apply Vq.runOps_cons); (first | exact rfl))
      | ((with_reducible first | apply Vq.vret | apply Vq.vskip | apply Vq.vexit | apply Vq.vab0 | apply Vq.vab1 | apply Vq.vabr); exact rfl)
      | ((with_reducible apply Vq.vregion); case hr => exact rfl)
      | (with_reducible first | apply Vq.vseq | apply Vq.vblock)
      | ((with_reducible apply Vq.vcond); exact rfl; dsimp only [Vq.pickC])
      | ((with_reducible apply Vq.vabx); (· decide); exact rfl) | dsimp only [Vq.afterSeq]); (try simp only [z1, z2, z3, z4, z5, z6, z7, z8, z9, z10, z11, z12, z13, z14, z15, z16, z17, z18, V.withLeaves, V.borrow, freeze1, borrows, borrow1, V.leaves, V.nextg, Nat.reduceAdd, Nat.reduceSub, layTup, obj1, splice, Bool.false_eq_true, if_true, if_false, Bool.not_true, Bool.not_false, Int.reduceLT, decide_true, decide_false, beq_self_eq_true, Bool.not_true, Int.reduceAdd, Int.reduceMul])))
    dsimp only [afterSeq]
    (with_reducible apply Vq.vseq)
    · repeat' (((first
      | (with_reducible exact Vq.runOps_nil)
      | ((with_reducible apply Vq.runOps_cons); (first | exact rfl))
      | ((with_reducible first | apply Vq.vret | apply Vq.vskip | apply Vq.vexit | apply Vq.vab0 | apply Vq.vab1 | apply Vq.vabr); exact rfl)
      | ((with_reducible apply Vq.vregion); case hr => exact rfl)
      | (with_reducible first | apply Vq.vseq | apply Vq.vblock)
      | ((with_reducible apply Vq.vcond); exact rfl; dsimp only [Vq.pickC])
      | ((with_reducible apply Vq.vabx); (· decide); exact rfl) | dsimp only [Vq.afterSeq]); (try simp only [z1, z2, z3, z4, z5, z6, z7, z8, z9, z10, z11, z12, z13, z14, z15, z16, z17, z18, V.withLeaves, V.borrow, freeze1, borrows, borrow1, V.leaves, V.nextg, Nat.reduceAdd, Nat.reduceSub, layTup, obj1, splice, Bool.false_eq_true, if_true, if_false, Bool.not_true, Bool.not_false, Int.reduceLT, decide_true, decide_false, beq_self_eq_true, Bool.not_true, Int.reduceAdd, Int.reduceMul])))
    dsimp only [afterSeq]
    (with_reducible apply Vq.vseq)
    · (with_reducible apply vblock)
      · (with_reducible apply Vq.vseq)
        · repeat' (((first
      | (with_reducible exact Vq.runOps_nil)
      | ((with_reducible apply Vq.runOps_cons); (first | exact rfl))
      | ((with_reducible first | apply Vq.vret | apply Vq.vskip | apply Vq.vexit | apply Vq.vab0 | apply Vq.vab1 | apply Vq.vabr); exact rfl)
      | ((with_reducible apply Vq.vregion); case hr => exact rfl)
      | (with_reducible first | apply Vq.vseq | apply Vq.vblock)
      | ((with_reducible apply Vq.vcond); exact rfl; dsimp only [Vq.pickC])
      | ((with_reducible apply Vq.vabx); (· decide); exact rfl) | dsimp only [Vq.afterSeq]); (try simp only [z1, z2, z3, z4, z5, z6, z7, z8, z9, z10, z11, z12, z13, z14, z15, z16, z17, z18, V.withLeaves, V.borrow, freeze1, borrows, borrow1, V.leaves, V.nextg, Nat.reduceAdd, Nat.reduceSub, layTup, obj1, splice, Bool.false_eq_true, if_true, if_false, Bool.not_true, Bool.not_false])))
        dsimp only [afterSeq]
        (with_reducible apply Vq.vseq)
        · (with_reducible apply Vq.vregion); case hr => exact rfl
          ((with_reducible apply Vq.runOps_cons); exact rfl; (try simp only [z1, z2, z3, z4, z5, z6, z7, z8, z9, z10, z11, z12, z13, z14, z15, z16, z17, z18, V.withLeaves, V.borrow, freeze1, borrows, borrow1, V.leaves, V.nextg, Nat.reduceAdd, Nat.reduceSub, layTup, obj1, splice, Bool.false_eq_true, if_true, if_false, Bool.not_true, Bool.not_false, hlt]); (with_reducible apply Vq.runOps_cons); exact rfl; (try simp only [z1, z2, z3, z4, z5, z6, z7, z8, z9, z10, z11, z12, z13, z14, z15, z16, z17, z18, V.withLeaves, V.borrow, freeze1, borrows, borrow1, V.leaves, V.nextg, Nat.reduceAdd, Nat.reduceSub, layTup, obj1, splice, Bool.false_eq_true, if_true, if_false, Bool.not_true, Bool.not_false, hlt]); (with_reducible apply Vq.runOps_cons); exact rfl; (try simp only [z1, z2, z3, z4, z5, z6, z7, z8, z9, z10, z11, z12, z13, z14, z15, z16, z17, z18, V.withLeaves, V.borrow, freeze1, borrows, borrow1, V.leaves, V.nextg, Nat.reduceAdd, Nat.reduceSub, layTup, obj1, splice, Bool.false_eq_true, if_true, if_false, Bool.not_true, Bool.not_false, hlt]); (with_reducible apply Vq.runOps_cons); exact rfl; (try simp only [z1, z2, z3, z4, z5, z6, z7, z8, z9, z10, z11, z12, z13, z14, z15, z16, z17, z18, V.withLeaves, V.borrow, freeze1, borrows, borrow1, V.leaves, V.nextg, Nat.reduceAdd, Nat.reduceSub, layTup, obj1, splice, Bool.false_eq_true, if_true, if_false, Bool.not_true, Bool.not_false, hlt]); (with_reducible apply Vq.runOps_cons); exact rfl; (try simp only [z1, z2, z3, z4, z5, z6, z7, z8, z9, z10, z11, z12, z13, z14, z15, z16, z17, z18, V.withLeaves, V.borrow, freeze1, borrows, borrow1, V.leaves, V.nextg, Nat.reduceAdd, Nat.reduceSub, layTup, obj1, splice, Bool.false_eq_true, if_true, if_false, Bool.not_true, Bool.not_false, hlt]); (with_reducible apply Vq.runOps_cons); exact rfl; (try simp only [z1, z2, z3, z4, z5, z6, z7, z8, z9, z10, z11, z12, z13, z14, z15, z16, z17, z18, V.withLeaves, V.borrow, freeze1, borrows, borrow1, V.leaves, V.nextg, Nat.reduceAdd, Nat.reduceSub, layTup, obj1, splice, Bool.false_eq_true, if_true, if_false, Bool.not_true, Bool.not_false, hlt]); (with_reducible apply Vq.runOps_cons); exact rfl; (try simp only [z1, z2, z3, z4, z5, z6, z7, z8, z9, z10, z11, z12, z13, z14, z15, z16, z17, z18, V.withLeaves, V.borrow, freeze1, borrows, borrow1, V.leaves, V.nextg, Nat.reduceAdd, Nat.reduceSub, layTup, obj1, splice, Bool.false_eq_true, if_true, if_false, Bool.not_true, Bool.not_false, hlt]))
          (with_reducible apply Vq.runOps_cons)
          · apply vguard rfl
            apply vidx rfl rfl (.inl rfl) (by decide) h0
            exact rfl
          (try simp only [z1, z2, z3, z4, z5, z6, z7, z8, z9, z10, z11, z12, z13, z14, z15, z16, z17, z18, V.withLeaves, V.borrow, freeze1, borrows, borrow1, V.leaves, V.nextg, Nat.reduceAdd, Nat.reduceSub, layTup, obj1, splice, Bool.false_eq_true, if_true, if_false, Bool.not_true, Bool.not_false])
          repeat' (((first
      | (with_reducible exact Vq.runOps_nil)
      | ((with_reducible apply Vq.runOps_cons); (first | exact rfl))
      | ((with_reducible first | apply Vq.vret | apply Vq.vskip | apply Vq.vexit | apply Vq.vab0 | apply Vq.vab1 | apply Vq.vabr); exact rfl)
      | ((with_reducible apply Vq.vregion); case hr => exact rfl)
      | (with_reducible first | apply Vq.vseq | apply Vq.vblock)
      | ((with_reducible apply Vq.vcond); exact rfl; dsimp only [Vq.pickC])
      | ((with_reducible apply Vq.vabx); (· decide); exact rfl) | dsimp only [Vq.afterSeq]); (try simp only [z1, z2, z3, z4, z5, z6, z7, z8, z9, z10, z11, z12, z13, z14, z15, z16, z17, z18, V.withLeaves, V.borrow, freeze1, borrows, borrow1, V.leaves, V.nextg, Nat.reduceAdd, Nat.reduceSub, layTup, obj1, splice, Bool.false_eq_true, if_true, if_false, Bool.not_true, Bool.not_false, Int.reduceLT, decide_true, decide_false, beq_self_eq_true, Bool.not_true, Int.reduceAdd, Int.reduceMul])))
        repeat' (((first
      | (with_reducible exact Vq.runOps_nil)
      | ((with_reducible apply Vq.runOps_cons); (first | exact rfl))
      | ((with_reducible first | apply Vq.vret | apply Vq.vskip | apply Vq.vexit | apply Vq.vab0 | apply Vq.vab1 | apply Vq.vabr); exact rfl)
      | ((with_reducible apply Vq.vregion); case hr => exact rfl)
      | (with_reducible first | apply Vq.vseq | apply Vq.vblock)
      | ((with_reducible apply Vq.vcond); exact rfl; dsimp only [Vq.pickC])
      | ((with_reducible apply Vq.vabx); (· decide); exact rfl) | dsimp only [Vq.afterSeq]); (try simp only [z1, z2, z3, z4, z5, z6, z7, z8, z9, z10, z11, z12, z13, z14, z15, z16, z17, z18, V.withLeaves, V.borrow, freeze1, borrows, borrow1, V.leaves, V.nextg, Nat.reduceAdd, Nat.reduceSub, layTup, obj1, splice, Bool.false_eq_true, if_true, if_false, Bool.not_true, Bool.not_false])))
      repeat' (((first
      | (with_reducible exact Vq.runOps_nil)
      | ((with_reducible apply Vq.runOps_cons); (first | exact rfl))
      | ((with_reducible first | apply Vq.vret | apply Vq.vskip | apply Vq.vexit | apply Vq.vab0 | apply Vq.vab1 | apply Vq.vabr); exact rfl)
      | ((with_reducible apply Vq.vregion); case hr => exact rfl)
      | (with_reducible first | apply Vq.vseq | apply Vq.vblock)
      | ((with_reducible apply Vq.vcond); exact rfl; dsimp only [Vq.pickC])
      | ((with_reducible apply Vq.vabx); (· decide); exact rfl) | dsimp only [Vq.afterSeq]); (try simp only [z1, z2, z3, z4, z5, z6, z7, z8, z9, z10, z11, z12, z13, z14, z15, z16, z17, z18, V.withLeaves, V.borrow, freeze1, borrows, borrow1, V.leaves, V.nextg, Nat.reduceAdd, Nat.reduceSub, layTup, obj1, splice, Bool.false_eq_true, if_true, if_false, Bool.not_true, Bool.not_false])))
    repeat' (((first
      | (with_reducible exact Vq.runOps_nil)
      | ((with_reducible apply Vq.runOps_cons); (first | exact rfl))
      | ((with_reducible first | apply Vq.vret | apply Vq.vskip | apply Vq.vexit | apply Vq.vab0 | apply Vq.vab1 | apply Vq.vabr); exact rfl)
      | ((with_reducible apply Vq.vregion); case hr => exact rfl)
      | (with_reducible first | apply Vq.vseq | apply Vq.vblock)
      | ((with_reducible apply Vq.vcond); exact rfl; dsimp only [Vq.pickC])
      | ((with_reducible apply Vq.vabx); (· decide); exact rfl) | dsimp only [Vq.afterSeq]); (try simp only [z1, z2, z3, z4, z5, z6, z7, z8, z9, z10, z11, z12, z13, z14, z15, z16, z17, z18, V.withLeaves, V.borrow, freeze1, borrows, borrow1, V.leaves, V.nextg, Nat.reduceAdd, Nat.reduceSub, layTup, obj1, splice, Bool.false_eq_true, if_true, if_false, Bool.not_true, Bool.not_false])))
  · kernel_rfl
theorem rnd1 (l : List Nat) (h0 : (byN l)[(1 : Int).toNat]? = some (.int .u8 1)) (hlt : decide ((1 : Int) < ((byN l).length : Int)) = true) :
    ∃ s, step cal its again 0 body34 (st34 l 1) = some (.normal, s) ∧ rebase? (some [0, 2, 12, 13]) 0 s = st34 l 2 := by
  unfold body34 st34
  apply vround
  · (with_reducible apply Vq.vseq)
    · repeat' (((first
      | (with_reducible exact Vq.runOps_nil)
      | ((with_reducible apply Vq.runOps_cons); (first | exact rfl))
      | ((with_reducible first | apply Vq.vret | apply Vq.vskip | apply Vq.vexit | apply Vq.vab0 | apply Vq.vab1 | apply Vq.vabr); exact rfl)
      | ((with_reducible apply Vq.vregion); case hr => exact rfl)
      | (with_reducible first | apply Vq.vseq | apply Vq.vblock)
      | ((with_reducible apply Vq.vcond); exact rfl; dsimp only [Vq.pickC])
      | ((with_reducible apply Vq.vabx); (· decide); exact rfl) | dsimp only [Vq.afterSeq]); (try simp only [z1, z2, z3, z4, z5, z6, z7, z8, z9, z10, z11, z12, z13, z14, z15, z16, z17, z18, V.withLeaves, V.borrow, freeze1, borrows, borrow1, V.leaves, V.nextg, Nat.reduceAdd, Nat.reduceSub, layTup, obj1, splice, Bool.false_eq_true, if_true, if_false, Bool.not_true, Bool.not_false, Int.reduceLT, decide_true, decide_false, beq_self_eq_true, Bool.not_true, Int.reduceAdd, Int.reduceMul])))
    dsimp only [afterSeq]
    (with_reducible apply Vq.vseq)
    · repeat' (((first
      | (with_reducible exact Vq.runOps_nil)
      | ((with_reducible apply Vq.runOps_cons); (first | exact rfl))
      | ((with_reducible first | apply Vq.vret | apply Vq.vskip | apply Vq.vexit | apply Vq.vab0 | apply Vq.vab1 | apply Vq.vabr); exact rfl)
      | ((with_reducible apply Vq.vregion); case hr => exact rfl)
      | (with_reducible first | apply Vq.vseq | apply Vq.vblock)
      | ((with_reducible apply Vq.vcond); exact rfl; dsimp only [Vq.pickC])
      | ((with_reducible apply Vq.vabx); (· decide); exact rfl) | dsimp only [Vq.afterSeq]); (try simp only [z1, z2, z3, z4, z5, z6, z7, z8, z9, z10, z11, z12, z13, z14, z15, z16, z17, z18, V.withLeaves, V.borrow, freeze1, borrows, borrow1, V.leaves, V.nextg, Nat.reduceAdd, Nat.reduceSub, layTup, obj1, splice, Bool.false_eq_true, if_true, if_false, Bool.not_true, Bool.not_false, Int.reduceLT, decide_true, decide_false, beq_self_eq_true, Bool.not_true, Int.reduceAdd, Int.reduceMul])))
    dsimp only [afterSeq]
    (with_reducible apply Vq.vseq)
    · (with_reducible apply vblock)
      · (with_reducible apply Vq.vseq)
        · repeat' (((first
      | (with_reducible exact Vq.runOps_nil)
      | ((with_reducible apply Vq.runOps_cons); (first | exact rfl))
      | ((with_reducible first | apply Vq.vret | apply Vq.vskip | apply Vq.vexit | apply Vq.vab0 | apply Vq.vab1 | apply Vq.vabr); exact rfl)
      | ((with_reducible apply Vq.vregion); case hr => exact rfl)
      | (with_reducible first | apply Vq.vseq | apply Vq.vblock)
      | ((with_reducible apply Vq.vcond); exact rfl; dsimp only [Vq.pickC])
      | ((with_reducible apply Vq.vabx); (· decide); exact rfl) | dsimp only [Vq.afterSeq]); (try simp only [z1, z2, z3, z4, z5, z6, z7, z8, z9, z10, z11, z12, z13, z14, z15, z16, z17, z18, V.withLeaves, V.borrow, freeze1, borrows, borrow1, V.leaves, V.nextg, Nat.reduceAdd, Nat.reduceSub, layTup, obj1, splice, Bool.false_eq_true, if_true, if_false, Bool.not_true, Bool.not_false])))
        dsimp only [afterSeq]
        (with_reducible apply Vq.vseq)
        · (with_reducible apply Vq.vregion); case hr => exact rfl
          ((with_reducible apply Vq.runOps_cons); exact rfl; (try simp only [z1, z2, z3, z4, z5, z6, z7, z8, z9, z10, z11, z12, z13, z14, z15, z16, z17, z18, V.withLeaves, V.borrow, freeze1, borrows, borrow1, V.leaves, V.nextg, Nat.reduceAdd, Nat.reduceSub, layTup, obj1, splice, Bool.false_eq_true, if_true, if_false, Bool.not_true, Bool.not_false, hlt]); (with_reducible apply Vq.runOps_cons); exact rfl; (try simp only [z1, z2, z3, z4, z5, z6, z7, z8, z9, z10, z11, z12, z13, z14, z15, z16, z17, z18, V.withLeaves, V.borrow, freeze1, borrows, borrow1, V.leaves, V.nextg, Nat.reduceAdd, Nat.reduceSub, layTup, obj1, splice, Bool.false_eq_true, if_true, if_false, Bool.not_true, Bool.not_false, hlt]); (with_reducible apply Vq.runOps_cons); exact rfl; (try simp only [z1, z2, z3, z4, z5, z6, z7, z8, z9, z10, z11, z12, z13, z14, z15, z16, z17, z18, V.withLeaves, V.borrow, freeze1, borrows, borrow1, V.leaves, V.nextg, Nat.reduceAdd, Nat.reduceSub, layTup, obj1, splice, Bool.false_eq_true, if_true, if_false, Bool.not_true, Bool.not_false, hlt]); (with_reducible apply Vq.runOps_cons); exact rfl; (try simp only [z1, z2, z3, z4, z5, z6, z7, z8, z9, z10, z11, z12, z13, z14, z15, z16, z17, z18, V.withLeaves, V.borrow, freeze1, borrows, borrow1, V.leaves, V.nextg, Nat.reduceAdd, Nat.reduceSub, layTup, obj1, splice, Bool.false_eq_true, if_true, if_false, Bool.not_true, Bool.not_false, hlt]); (with_reducible apply Vq.runOps_cons); exact rfl; (try simp only [z1, z2, z3, z4, z5, z6, z7, z8, z9, z10, z11, z12, z13, z14, z15, z16, z17, z18, V.withLeaves, V.borrow, freeze1, borrows, borrow1, V.leaves, V.nextg, Nat.reduceAdd, Nat.reduceSub, layTup, obj1, splice, Bool.false_eq_true, if_true, if_false, Bool.not_true, Bool.not_false, hlt]); (with_reducible apply Vq.runOps_cons); exact rfl; (try simp only [z1, z2, z3, z4, z5, z6, z7, z8, z9, z10, z11, z12, z13, z14, z15, z16, z17, z18, V.withLeaves, V.borrow, freeze1, borrows, borrow1, V.leaves, V.nextg, Nat.reduceAdd, Nat.reduceSub, layTup, obj1, splice, Bool.false_eq_true, if_true, if_false, Bool.not_true, Bool.not_false, hlt]); (with_reducible apply Vq.runOps_cons); exact rfl; (try simp only [z1, z2, z3, z4, z5, z6, z7, z8, z9, z10, z11, z12, z13, z14, z15, z16, z17, z18, V.withLeaves, V.borrow, freeze1, borrows, borrow1, V.leaves, V.nextg, Nat.reduceAdd, Nat.reduceSub, layTup, obj1, splice, Bool.false_eq_true, if_true, if_false, Bool.not_true, Bool.not_false, hlt]))
          (with_reducible apply Vq.runOps_cons)
          · apply vguard rfl
            apply vidx rfl rfl (.inl rfl) (by decide) h0
            exact rfl
          (try simp only [z1, z2, z3, z4, z5, z6, z7, z8, z9, z10, z11, z12, z13, z14, z15, z16, z17, z18, V.withLeaves, V.borrow, freeze1, borrows, borrow1, V.leaves, V.nextg, Nat.reduceAdd, Nat.reduceSub, layTup, obj1, splice, Bool.false_eq_true, if_true, if_false, Bool.not_true, Bool.not_false])
          repeat' (((first
      | (with_reducible exact Vq.runOps_nil)
      | ((with_reducible apply Vq.runOps_cons); (first | exact rfl))
      | ((with_reducible first | apply Vq.vret | apply Vq.vskip | apply Vq.vexit | apply Vq.vab0 | apply Vq.vab1 | apply Vq.vabr); exact rfl)
      | ((with_reducible apply Vq.vregion); case hr => exact rfl)
      | (with_reducible first | apply Vq.vseq | apply Vq.vblock)
      | ((with_reducible apply Vq.vcond); exact rfl; dsimp only [Vq.pickC])
      | ((with_reducible apply Vq.vabx); (· decide); exact rfl) | dsimp only [Vq.afterSeq]); (try simp only [z1, z2, z3, z4, z5, z6, z7, z8, z9, z10, z11, z12, z13, z14, z15, z16, z17, z18, V.withLeaves, V.borrow, freeze1, borrows, borrow1, V.leaves, V.nextg, Nat.reduceAdd, Nat.reduceSub, layTup, obj1, splice, Bool.false_eq_true, if_true, if_false, Bool.not_true, Bool.not_false, Int.reduceLT, decide_true, decide_false, beq_self_eq_true, Bool.not_true, Int.reduceAdd, Int.reduceMul])))
        repeat' (((first
      | (with_reducible exact Vq.runOps_nil)
      | ((with_reducible apply Vq.runOps_cons); (first | exact rfl))
      | ((with_reducible first | apply Vq.vret | apply Vq.vskip | apply Vq.vexit | apply Vq.vab0 | apply Vq.vab1 | apply Vq.vabr); exact rfl)
      | ((with_reducible apply Vq.vregion); case hr => exact rfl)
      | (with_reducible first | apply Vq.vseq | apply Vq.vblock)
      | ((with_reducible apply Vq.vcond); exact rfl; dsimp only [Vq.pickC])
      | ((with_reducible apply Vq.vabx); (· decide); exact rfl) | dsimp only [Vq.afterSeq]); (try simp only [z1, z2, z3, z4, z5, z6, z7, z8, z9, z10, z11, z12, z13, z14, z15, z16, z17, z18, V.withLeaves, V.borrow, freeze1, borrows, borrow1, V.leaves, V.nextg, Nat.reduceAdd, Nat.reduceSub, layTup, obj1, splice, Bool.false_eq_true, if_true, if_false, Bool.not_true, Bool.not_false])))
      repeat' (((first
      | (with_reducible exact Vq.runOps_nil)
      | ((with_reducible apply Vq.runOps_cons); (first | exact rfl))
      | ((with_reducible first | apply Vq.vret | apply Vq.vskip | apply Vq.vexit | apply Vq.vab0 | apply Vq.vab1 | apply Vq.vabr); exact rfl)
      | ((with_reducible apply Vq.vregion); case hr => exact rfl)
      | (with_reducible first | apply Vq.vseq | apply Vq.vblock)
      | ((with_reducible apply Vq.vcond); exact rfl; dsimp only [Vq.pickC])
      | ((with_reducible apply Vq.vabx); (· decide); exact rfl) | dsimp only [Vq.afterSeq]); (try simp only [z1, z2, z3, z4, z5, z6, z7, z8, z9, z10, z11, z12, z13, z14, z15, z16, z17, z18, V.withLeaves, V.borrow, freeze1, borrows, borrow1, V.leaves, V.nextg, Nat.reduceAdd, Nat.reduceSub, layTup, obj1, splice, Bool.false_eq_true, if_true, if_false, Bool.not_true, Bool.not_false])))
    repeat' (((first
      | (with_reducible exact Vq.runOps_nil)
      | ((with_reducible apply Vq.runOps_cons); (first | exact rfl))
      | ((with_reducible first | apply Vq.vret | apply Vq.vskip | apply Vq.vexit | apply Vq.vab0 | apply Vq.vab1 | apply Vq.vabr); exact rfl)
      | ((with_reducible apply Vq.vregion); case hr => exact rfl)
      | (with_reducible first | apply Vq.vseq | apply Vq.vblock)
      | ((with_reducible apply Vq.vcond); exact rfl; dsimp only [Vq.pickC])
      | ((with_reducible apply Vq.vabx); (· decide); exact rfl) | dsimp only [Vq.afterSeq]); (try simp only [z1, z2, z3, z4, z5, z6, z7, z8, z9, z10, z11, z12, z13, z14, z15, z16, z17, z18, V.withLeaves, V.borrow, freeze1, borrows, borrow1, V.leaves, V.nextg, Nat.reduceAdd, Nat.reduceSub, layTup, obj1, splice, Bool.false_eq_true, if_true, if_false, Bool.not_true, Bool.not_false])))
  · kernel_rfl
theorem rnd2 (l : List Nat) : step cal its again 0 body34 (st34 l 2) = some (.exit 0, ex34 l) := by
  unfold body34 st34 ex34
  repeat' (((first
      | (with_reducible exact Vq.runOps_nil)
      | ((with_reducible apply Vq.runOps_cons); (first | exact rfl))
      | ((with_reducible first | apply Vq.vret | apply Vq.vskip | apply Vq.vexit | apply Vq.vab0 | apply Vq.vab1 | apply Vq.vabr); exact rfl)
      | ((with_reducible apply Vq.vregion); case hr => exact rfl)
      | (with_reducible first | apply Vq.vseq | apply Vq.vblock)
      | ((with_reducible apply Vq.vcond); exact rfl; dsimp only [Vq.pickC])
      | ((with_reducible apply Vq.vabx); (· decide); exact rfl) | dsimp only [Vq.afterSeq]); (try simp only [z1, z2, z3, z4, z5, z6, z7, z8, z9, z10, z11, z12, z13, z14, z15, z16, z17, z18, V.withLeaves, V.borrow, freeze1, borrows, borrow1, V.leaves, V.nextg, Nat.reduceAdd, Nat.reduceSub, layTup, obj1, splice, Bool.false_eq_true, if_true, if_false, Bool.not_true, Bool.not_false, Int.reduceLT, decide_true, decide_false, beq_self_eq_true, Bool.not_true, Int.reduceAdd, Int.reduceMul])))
theorem loop34 (G : VProg) (l : List Nat) (h0 : (byN l)[(0 : Int).toNat]? = some (.int .u8 167)) (h1 : (byN l)[(1 : Int).toNat]? = some (.int .u8 1)) (hl : 3 ≤ l.length) (m : Nat) (hm : 2 ≤ m) (σ : St) (hr : rebase? (some [0, 2, 12, 13]) 0 σ = st34 l 0) :
    step (call G m) (itersOf G) (exec G m) 0 (.loop (some [0, 2, 12, 13]) body34) σ = some (.exit 0, ex34 l) := by
  obtain ⟨m, rfl⟩ : ∃ k, m = k + 2 := ⟨m - 2, by omega⟩
  obtain ⟨r, h2, h3⟩ := rnd0 (call G (m + 2)) (itersOf G) (exec G (m + 2)) l h0 (by rw [byN_len]; simp; omega)
  refine step_loop hr h2 ?_
  rw [exec_succ]
  obtain ⟨r', h4, h5⟩ := rnd1 (call G (m + 1)) (itersOf G) (exec G (m + 1)) l h1 (by rw [byN_len]; simp; omega)
  refine step_loop h3 h4 ?_
  rw [exec_succ]
  exact step_loop_out h5 (rnd2 _ _ _ l) (by intro e; cases e)
/-! ### the sum at the end -/
def bodyt : VCode := (.seq (.region [{ dst := (some 65), op := .bin (.lss) (.tmp 64) (.val (.int .i64 4)), guard := none, before := 0 }] false) (.seq (.cond (.tmp 65) (.skip) (.exit 3)) (.seq (.block 4 none (.seq (.region [{ dst := (some 66), op := .move (.tmp 64), guard := none, before := 0 }, { dst := (some 11), op := .assign (.tmp 66), guard := none, before := 1 }] false) (.seq (.seq (.region [{ dst := (some 67), op := .move (.tmp 9), guard := none, before := 0 }, { dst := (some 68), op := .move (.tmp 11), guard := none, before := 0 }, { dst := (some 69), op := .bin (.add) (.tmp 67) (.tmp 68), guard := none, before := 3 }, { dst := (some 70), op := .move (.tmp 0), guard := none, before := 0 }, { dst := (some 71), op := .len (.slc 1) (.tmp 70), guard := none, before := 8 }, { dst := (some 72), op := .bin (.geq) (.tmp 69) (.tmp 71), guard := none, before := 31 }] false) (.cond (.tmp 72) (.seq (.region [{ dst := (some 73), op := .build [(.int .u8 0), (.nilS 1)] [], guard := none, before := 0 }, { dst := none, op := .store 2 (.tmp 2) (.tmp 73), guard := none, before := 1 }, { dst := (some 3), op := .assign (.val (.int .i64 0)), guard := none, before := 3 }, { dst := (some 4), op := .assign (.val (.int .i64 61)), guard := none, before := 7 }] false) (.ret)) (.skip))) (.seq (.region [{ dst := (some 74), op := .move (.tmp 0), guard := none, before := 0 }, { dst := (some 75), op := .move (.tmp 9), guard := none, before := 0 }, { dst := (some 76), op := .move (.tmp 11), guard := none, before := 0 }, { dst := (some 77), op := .bin (.add) (.tmp 75) (.tmp 76), guard := none, before := 6 }, { dst := (some 78), op := .indexAddr none 1 (.tmp 74) (.tmp 77), guard := none, before := 15 }, { dst := (some 79), op := .load false 1 (.tmp 78), guard := none, before := 31 }, { dst := (some 80), op := .move (.tmp 10), guard := none, before := 0 }, { dst := (some 81), op := .move (.tmp 11), guard := none, before := 0 }, { dst := (some 82), op := .bin (.mul) (.val (.int .i64 8)) (.tmp 81), guard := none, before := 128 }, { dst := (some 83), op := .bin (.shr) (.tmp 80) (.tmp 82), guard := none, before := 448 }, { dst := (some 84), op := .conv (.int (.u8)) (.tmp 83), guard := none, before := 960 }, { dst := (some 85), op := .eq true (.num) (.tmp 79) (.tmp 84), guard := none, before := 2047 }] true) (.cond (.tmp 85) (.seq (.region [{ dst := (some 86), op := .build [(.int .u8 0), (.nilS 1)] [], guard := none, before := 0 }, { dst := none, op := .store 2 (.tmp 2) (.tmp 86), guard := none, before := 1 }, { dst := (some 3), op := .assign (.val (.int .i64 0)), guard := none, before := 3 }, { dst := (some 4), op := .assign (.val (.int .i64 62)), guard := none, before := 7 }] false) (.ret)) (.skip)))))) (.region [{ dst := (some 87), op := .bin (.add) (.tmp 64) (.val (.int .i64 1)), guard := none, before := 0 }, { dst := (some 64), op := .move (.tmp 87), guard := none, before := 1 }] false))))
def stt (l : List Nat) (used e sum : Nat) (i : Int) : St :=
  { slots := (.isl 0 1 (byN l) :: .gone 0 :: .ptr (.obj 0 0) :: .gone 0 :: .gone 0 :: .gone 0 :: .gone 0 :: .gone 0 :: .int .i64 used :: .int .i64 e :: .int .u32 sum :: .gone 0 :: .gone 0 :: .gone 0 :: .gone 0 :: .gone 0 :: .gone 0 :: .gone 0 :: .gone 0 :: .gone 0 :: .gone 0 :: .gone 0 :: .gone 0 :: .gone 0 :: .gone 0 :: .gone 0 :: .gone 0 :: .gone 0 :: .gone 0 :: .gone 0 :: .gone 0 :: .gone 0 :: .gone 0 :: .gone 0 :: .gone 0 :: .gone 0 :: .gone 0 :: .gone 0 :: .gone 0 :: .gone 0 :: .int .i64 used :: .gone 0 :: .gone 0 :: .gone 0 :: .gone 0 :: .gone 0 :: .gone 0 :: .gone 0 :: .gone 0 :: .gone 0 :: .gone 0 :: .gone 0 :: .gone 0 :: .gone 0 :: .gone 0 :: .gone 0 :: .gone 0 :: .gone 0 :: .gone 0 :: .gone 0 :: .gone 0 :: .gone 0 :: .gone 0 :: .gone 0 :: .int .i64 i :: .gone 0 :: .gone 0 :: .gone 0 :: .gone 0 :: .gone 0 :: .gone 0 :: .gone 0 :: .gone 0 :: .gone 0 :: .gone 0 :: .gone 0 :: .gone 0 :: .gone 0 :: .gone 0 :: .gone 0 :: .gone 0 :: .gone 0 :: .gone 0 :: .gone 0 :: .gone 0 :: .gone 0 :: .gone 0 :: .gone 0 :: .gone 0 :: .gone 0 :: .gone 0 :: .gone 0 :: .gone 0 :: .gone 0 :: .gone 0 :: .gone 0 :: .gone 0 :: .gone 0 :: .gone 0 :: .gone 0 :: []), objs := [some o34] }
def ext (l : List Nat) (used e sum : Nat) : St :=
  { slots := (.isl 0 1 (byN l) :: .gone 0 :: .ptr (.obj 0 0) :: .gone 0 :: .gone 0 :: .gone 0 :: .gone 0 :: .gone 0 :: .int .i64 used :: .int .i64 e :: .int .u32 sum :: .gone 0 :: .gone 0 :: .gone 0 :: .gone 0 :: .gone 0 :: .gone 0 :: .gone 0 :: .gone 0 :: .gone 0 :: .gone 0 :: .gone 0 :: .gone 0 :: .gone 0 :: .gone 0 :: .gone 0 :: .gone 0 :: .gone 0 :: .gone 0 :: .gone 0 :: .gone 0 :: .gone 0 :: .gone 0 :: .gone 0 :: .gone 0 :: .gone 0 :: .gone 0 :: .gone 0 :: .gone 0 :: .gone 0 :: .int .i64 used :: .gone 0 :: .gone 0 :: .gone 0 :: .gone 0 :: .gone 0 :: .gone 0 :: .gone 0 :: .gone 0 :: .gone 0 :: .gone 0 :: .gone 0 :: .gone 0 :: .gone 0 :: .gone 0 :: .gone 0 :: .gone 0 :: .gone 0 :: .gone 0 :: .gone 0 :: .gone 0 :: .gone 0 :: .gone 0 :: .gone 0 :: .int .i64 4 :: .bool false :: .gone 0 :: .gone 0 :: .gone 0 :: .gone 0 :: .gone 0 :: .gone 0 :: .gone 0 :: .gone 0 :: .gone 0 :: .gone 0 :: .gone 0 :: .gone 0 :: .gone 0 :: .gone 0 :: .gone 0 :: .gone 0 :: .gone 0 :: .gone 0 :: .gone 0 :: .gone 0 :: .gone 0 :: .gone 0 :: .gone 0 :: .gone 0 :: .gone 0 :: .gone 0 :: .gone 0 :: .gone 0 :: .gone 0 :: .gone 0 :: .gone 0 :: .gone 0 :: .gone 0 :: .gone 0 :: []), objs := [some o34] }
theorem tl0 (l : List Nat) (used e sum : Nat) (w : Nat) (ha : IntKind.i64.wrap ((e : Int) + 0) = ((e + 0 : Nat) : Int)) (hge : decide (((e + 0 : Nat) : Int) ≥ ((byN l).length : Int)) = false) (hg : (byN l)[((e + 0 : Nat) : Int).toNat]? = some (.int .u8 w))
    (hw : IntKind.u8.wrap ((sum : Int).fdiv (2 ^ 0)) = (w : Int)) : ∃ s, step cal its again 0 bodyt (stt l used e sum 0) = some (.normal, s) ∧ rebase? (some [0, 2, 8, 9, 10, 40, 64]) 0 s = stt l used e sum 1 := by
  have hw' : IntKind.u8.wrap ((sum : Int).fdiv (2 ^ min (IntKind.i64.wrap (8 * 0)).toNat IntKind.u32.bits)) = (w : Int) := hw
  unfold bodyt stt
  apply vround
  · (with_reducible apply Vq.vseq)
    · repeat' (((first
      | (with_reducible exact Vq.runOps_nil)
      | ((with_reducible apply Vq.runOps_cons); (first | exact rfl))
      | ((with_reducible first | apply Vq.vret | apply Vq.vskip | apply Vq.vexit | apply Vq.vab0 | apply Vq.vab1 | apply Vq.vabr); exact rfl)
      | ((with_reducible apply Vq.vregion); case hr => exact rfl)
      | (with_reducible first | apply Vq.vseq | apply Vq.vblock)
      | ((with_reducible apply Vq.vcond); exact rfl; dsimp only [Vq.pickC])
      | ((with_reducible apply Vq.vabx); (· decide); exact rfl) | dsimp only [Vq.afterSeq]); (try simp only [z1, z2, z3, z4, z5, z6, z7, z8, z9, z10, z11, z12, z13, z14, z15, z16, z17, z18, V.withLeaves, V.borrow, freeze1, borrows, borrow1, V.leaves, V.nextg, Nat.reduceAdd, Nat.reduceSub, layTup, obj1, splice, Bool.false_eq_true, if_true, if_false, Bool.not_true, Bool.not_false, Int.reduceLT, decide_true, decide_false, beq_self_eq_true, Bool.not_true, Int.reduceAdd, Int.reduceMul])))
    dsimp only [afterSeq]
    (with_reducible apply Vq.vseq)
    · repeat' (((first
      | (with_reducible exact Vq.runOps_nil)
      | ((with_reducible apply Vq.runOps_cons); (first | exact rfl))
      | ((with_reducible first | apply Vq.vret | apply Vq.vskip | apply Vq.vexit | apply Vq.vab0 | apply Vq.vab1 | apply Vq.vabr); exact rfl)
      | ((with_reducible apply Vq.vregion); case hr => exact rfl)
      | (with_reducible first | apply Vq.vseq | apply Vq.vblock)
      | ((with_reducible apply Vq.vcond); exact rfl; dsimp only [Vq.pickC])
      | ((with_reducible apply Vq.vabx); (· decide); exact rfl) | dsimp only [Vq.afterSeq]); (try simp only [z1, z2, z3, z4, z5, z6, z7, z8, z9, z10, z11, z12, z13, z14, z15, z16, z17, z18, V.withLeaves, V.borrow, freeze1, borrows, borrow1, V.leaves, V.nextg, Nat.reduceAdd, Nat.reduceSub, layTup, obj1, splice, Bool.false_eq_true, if_true, if_false, Bool.not_true, Bool.not_false, Int.reduceLT, decide_true, decide_false, beq_self_eq_true, Bool.not_true, Int.reduceAdd, Int.reduceMul])))
    dsimp only [afterSeq]
    (with_reducible apply Vq.vseq)
    · (with_reducible apply vblock)
      · (with_reducible apply Vq.vseq)
        · repeat' (((first
      | (with_reducible exact Vq.runOps_nil)
      | ((with_reducible apply Vq.runOps_cons); (first | exact rfl))
      | ((with_reducible first | apply Vq.vret | apply Vq.vskip | apply Vq.vexit | apply Vq.vab0 | apply Vq.vab1 | apply Vq.vabr); exact rfl)
      | ((with_reducible apply Vq.vregion); case hr => exact rfl)
      | (with_reducible first | apply Vq.vseq | apply Vq.vblock)
      | ((with_reducible apply Vq.vcond); exact rfl; dsimp only [Vq.pickC])
      | ((with_reducible apply Vq.vabx); (· decide); exact rfl) | dsimp only [Vq.afterSeq]); (try simp only [z1, z2, z3, z4, z5, z6, z7, z8, z9, z10, z11, z12, z13, z14, z15, z16, z17, z18, V.withLeaves, V.borrow, freeze1, borrows, borrow1, V.leaves, V.nextg, Nat.reduceAdd, Nat.reduceSub, layTup, obj1, splice, Bool.false_eq_true, if_true, if_false, Bool.not_true, Bool.not_false])))
        dsimp only [afterSeq]
        (with_reducible apply Vq.vseq)
        · repeat' (((first
      | (with_reducible exact Vq.runOps_nil)
      | ((with_reducible apply Vq.runOps_cons); (first | exact rfl))
      | ((with_reducible first | apply Vq.vret | apply Vq.vskip | apply Vq.vexit | apply Vq.vab0 | apply Vq.vab1 | apply Vq.vabr); exact rfl)
      | ((with_reducible apply Vq.vregion); case hr => exact rfl)
      | (with_reducible first | apply Vq.vseq | apply Vq.vblock)
      | ((with_reducible apply Vq.vcond); exact rfl; dsimp only [Vq.pickC])
      | ((with_reducible apply Vq.vabx); (· decide); exact rfl) | dsimp only [Vq.afterSeq]); (try simp only [z1, z2, z3, z4, z5, z6, z7, z8, z9, z10, z11, z12, z13, z14, z15, z16, z17, z18, V.withLeaves, V.borrow, freeze1, borrows, borrow1, V.leaves, V.nextg, Nat.reduceAdd, Nat.reduceSub, layTup, obj1, splice, Bool.false_eq_true, if_true, if_false, Bool.not_true, Bool.not_false, ha, hge])))
        dsimp only [afterSeq]
        (with_reducible apply Vq.vseq)
        · (with_reducible apply vdraw)
          case hr => exact rfl
          (apply Vq.runDraw_cons; exact rfl; kernel_rfl; exact rfl; (try simp only [z1, z2, z3, z4, z5, z6, z7, z8, z9, z10, z11, z12, z13, z14, z15, z16, z17, z18, V.withLeaves, V.borrow, freeze1, borrows, borrow1, V.leaves, V.nextg, Nat.reduceAdd, Nat.reduceSub, layTup, obj1, splice, Bool.false_eq_true, if_true, if_false, Bool.not_true, Bool.not_false]))
          (apply Vq.runDraw_cons; exact rfl; kernel_rfl; exact rfl; (try simp only [z1, z2, z3, z4, z5, z6, z7, z8, z9, z10, z11, z12, z13, z14, z15, z16, z17, z18, V.withLeaves, V.borrow, freeze1, borrows, borrow1, V.leaves, V.nextg, Nat.reduceAdd, Nat.reduceSub, layTup, obj1, splice, Bool.false_eq_true, if_true, if_false, Bool.not_true, Bool.not_false]))
          (apply Vq.runDraw_cons; exact rfl; kernel_rfl; exact rfl; (try simp only [z1, z2, z3, z4, z5, z6, z7, z8, z9, z10, z11, z12, z13, z14, z15, z16, z17, z18, V.withLeaves, V.borrow, freeze1, borrows, borrow1, V.leaves, V.nextg, Nat.reduceAdd, Nat.reduceSub, layTup, obj1, splice, Bool.false_eq_true, if_true, if_false, Bool.not_true, Bool.not_false]))
          (apply Vq.runDraw_cons; exact rfl; kernel_rfl; exact rfl; (try simp only [z1, z2, z3, z4, z5, z6, z7, z8, z9, z10, z11, z12, z13, z14, z15, z16, z17, z18, V.withLeaves, V.borrow, freeze1, borrows, borrow1, V.leaves, V.nextg, Nat.reduceAdd, Nat.reduceSub, layTup, obj1, splice, Bool.false_eq_true, if_true, if_false, Bool.not_true, Bool.not_false, ha]))
          apply runDraw_cons
          · apply S13.vidx_foot (rs := [.slot 77, .slot 74]) rfl rfl (Int.natCast_nonneg _) hg
            exact rfl
          · kernel_rfl
          · apply vidx rfl rfl (.inl rfl) (Int.natCast_nonneg _) hg
            exact rfl
          (try simp only [z1, z2, z3, z4, z5, z6, z7, z8, z9, z10, z11, z12, z13, z14, z15, z16, z17, z18, V.withLeaves, V.borrow, freeze1, borrows, borrow1, V.leaves, V.nextg, Nat.reduceAdd, Nat.reduceSub, layTup, obj1, splice, Bool.false_eq_true, if_true, if_false, Bool.not_true, Bool.not_false])
          (apply Vq.runDraw_cons; exact rfl; kernel_rfl; exact rfl; (try simp only [z1, z2, z3, z4, z5, z6, z7, z8, z9, z10, z11, z12, z13, z14, z15, z16, z17, z18, V.withLeaves, V.borrow, freeze1, borrows, borrow1, V.leaves, V.nextg, Nat.reduceAdd, Nat.reduceSub, layTup, obj1, splice, Bool.false_eq_true, if_true, if_false, Bool.not_true, Bool.not_false]))
          (apply Vq.runDraw_cons; exact rfl; kernel_rfl; exact rfl; (try simp only [z1, z2, z3, z4, z5, z6, z7, z8, z9, z10, z11, z12, z13, z14, z15, z16, z17, z18, V.withLeaves, V.borrow, freeze1, borrows, borrow1, V.leaves, V.nextg, Nat.reduceAdd, Nat.reduceSub, layTup, obj1, splice, Bool.false_eq_true, if_true, if_false, Bool.not_true, Bool.not_false]))
          (apply Vq.runDraw_cons; exact rfl; kernel_rfl; exact rfl; (try simp only [z1, z2, z3, z4, z5, z6, z7, z8, z9, z10, z11, z12, z13, z14, z15, z16, z17, z18, V.withLeaves, V.borrow, freeze1, borrows, borrow1, V.leaves, V.nextg, Nat.reduceAdd, Nat.reduceSub, layTup, obj1, splice, Bool.false_eq_true, if_true, if_false, Bool.not_true, Bool.not_false]))
          (apply Vq.runDraw_cons; exact rfl; kernel_rfl; exact rfl; (try simp only [z1, z2, z3, z4, z5, z6, z7, z8, z9, z10, z11, z12, z13, z14, z15, z16, z17, z18, V.withLeaves, V.borrow, freeze1, borrows, borrow1, V.leaves, V.nextg, Nat.reduceAdd, Nat.reduceSub, layTup, obj1, splice, Bool.false_eq_true, if_true, if_false, Bool.not_true, Bool.not_false]))
          (apply Vq.runDraw_cons; exact rfl; kernel_rfl; exact rfl; (try simp only [z1, z2, z3, z4, z5, z6, z7, z8, z9, z10, z11, z12, z13, z14, z15, z16, z17, z18, V.withLeaves, V.borrow, freeze1, borrows, borrow1, V.leaves, V.nextg, Nat.reduceAdd, Nat.reduceSub, layTup, obj1, splice, Bool.false_eq_true, if_true, if_false, Bool.not_true, Bool.not_false]))
          (apply Vq.runDraw_cons; exact rfl; kernel_rfl; exact rfl; (try simp only [z1, z2, z3, z4, z5, z6, z7, z8, z9, z10, z11, z12, z13, z14, z15, z16, z17, z18, V.withLeaves, V.borrow, freeze1, borrows, borrow1, V.leaves, V.nextg, Nat.reduceAdd, Nat.reduceSub, layTup, obj1, splice, Bool.false_eq_true, if_true, if_false, Bool.not_true, Bool.not_false, hw']))
          (apply Vq.runDraw_cons; exact rfl; kernel_rfl; exact rfl; (try simp only [z1, z2, z3, z4, z5, z6, z7, z8, z9, z10, z11, z12, z13, z14, z15, z16, z17, z18, V.withLeaves, V.borrow, freeze1, borrows, borrow1, V.leaves, V.nextg, Nat.reduceAdd, Nat.reduceSub, layTup, obj1, splice, Bool.false_eq_true, if_true, if_false, Bool.not_true, Bool.not_false, beq_self_eq_true, Bool.not_true]))
          exact runDraw_nil
        repeat' (((first
      | (with_reducible exact Vq.runOps_nil)
      | ((with_reducible apply Vq.runOps_cons); (first | exact rfl))
      | ((with_reducible first | apply Vq.vret | apply Vq.vskip | apply Vq.vexit | apply Vq.vab0 | apply Vq.vab1 | apply Vq.vabr); exact rfl)
      | ((with_reducible apply Vq.vregion); case hr => exact rfl)
      | (with_reducible first | apply Vq.vseq | apply Vq.vblock)
      | ((with_reducible apply Vq.vcond); exact rfl; dsimp only [Vq.pickC])
      | ((with_reducible apply Vq.vabx); (· decide); exact rfl) | dsimp only [Vq.afterSeq]); (try simp only [z1, z2, z3, z4, z5, z6, z7, z8, z9, z10, z11, z12, z13, z14, z15, z16, z17, z18, V.withLeaves, V.borrow, freeze1, borrows, borrow1, V.leaves, V.nextg, Nat.reduceAdd, Nat.reduceSub, layTup, obj1, splice, Bool.false_eq_true, if_true, if_false, Bool.not_true, Bool.not_false])))
      repeat' (((first
      | (with_reducible exact Vq.runOps_nil)
      | ((with_reducible apply Vq.runOps_cons); (first | exact rfl))
      | ((with_reducible first | apply Vq.vret | apply Vq.vskip | apply Vq.vexit | apply Vq.vab0 | apply Vq.vab1 | apply Vq.vabr); exact rfl)
      | ((with_reducible apply Vq.vregion); case hr => exact rfl)
      | (with_reducible first | apply Vq.vseq | apply Vq.vblock)
      | ((with_reducible apply Vq.vcond); exact rfl; dsimp only [Vq.pickC])
      | ((with_reducible apply Vq.vabx); (· decide); exact rfl) | dsimp only [Vq.afterSeq]); (try simp only [z1, z2, z3, z4, z5, z6, z7, z8, z9, z10, z11, z12, z13, z14, z15, z16, z17, z18, V.withLeaves, V.borrow, freeze1, borrows, borrow1, V.leaves, V.nextg, Nat.reduceAdd, Nat.reduceSub, layTup, obj1, splice, Bool.false_eq_true, if_true, if_false, Bool.not_true, Bool.not_false])))
    repeat' (((first
      | (with_reducible exact Vq.runOps_nil)
      | ((with_reducible apply Vq.runOps_cons); (first | exact rfl))
      | ((with_reducible first | apply Vq.vret | apply Vq.vskip | apply Vq.vexit | apply Vq.vab0 | apply Vq.vab1 | apply Vq.vabr); exact rfl)
      | ((with_reducible apply Vq.vregion); case hr => exact rfl)
      | (with_reducible first | apply Vq.vseq | apply Vq.vblock)
      | ((with_reducible apply Vq.vcond); exact rfl; dsimp only [Vq.pickC])
      | ((with_reducible apply Vq.vabx); (· decide); exact rfl) | dsimp only [Vq.afterSeq]); (try simp only [z1, z2, z3, z4, z5, z6, z7, z8, z9, z10, z11, z12, z13, z14, z15, z16, z17, z18, V.withLeaves, V.borrow, freeze1, borrows, borrow1, V.leaves, V.nextg, Nat.reduceAdd, Nat.reduceSub, layTup, obj1, splice, Bool.false_eq_true, if_true, if_false, Bool.not_true, Bool.not_false])))
  · kernel_rfl
theorem tl1 (l : List Nat) (used e sum : Nat) (w : Nat) (ha : IntKind.i64.wrap ((e : Int) + 1) = ((e + 1 : Nat) : Int)) (hge : decide (((e + 1 : Nat) : Int) ≥ ((byN l).length : Int)) = false) (hg : (byN l)[((e + 1 : Nat) : Int).toNat]? = some (.int .u8 w))
    (hw : IntKind.u8.wrap ((sum : Int).fdiv (2 ^ 8)) = (w : Int)) : ∃ s, step cal its again 0 bodyt (stt l used e sum 1) = some (.normal, s) ∧ rebase? (some [0, 2, 8, 9, 10, 40, 64]) 0 s = stt l used e sum 2 := by
  have hw' : IntKind.u8.wrap ((sum : Int).fdiv (2 ^ min (IntKind.i64.wrap (8 * 1)).toNat IntKind.u32.bits)) = (w : Int) := hw
  unfold bodyt stt
  apply vround
  · (with_reducible apply Vq.vseq)
    · repeat' (((first
      | (with_reducible exact Vq.runOps_nil)
      | ((with_reducible apply Vq.runOps_cons); (first | exact rfl))
      | ((with_reducible first | apply Vq.vret | apply Vq.vskip | apply Vq.vexit | apply Vq.vab0 | apply Vq.vab1 | apply Vq.vabr); exact rfl)
      | ((with_reducible apply Vq.vregion); case hr => exact rfl)
      | (with_reducible first | apply Vq.vseq | apply Vq.vblock)
      | ((with_reducible apply Vq.vcond); exact rfl; dsimp only [Vq.pickC])
      | ((with_reducible apply Vq.vabx); (· decide); exact rfl) | dsimp only [Vq.afterSeq]); (try simp only [z1, z2, z3, z4, z5, z6, z7, z8, z9, z10, z11, z12, z13, z14, z15, z16, z17, z18, V.withLeaves, V.borrow, freeze1, borrows, borrow1, V.leaves, V.nextg, Nat.reduceAdd, Nat.reduceSub, layTup, obj1, splice, Bool.false_eq_true, if_true, if_false, Bool.not_true, Bool.not_false, Int.reduceLT, decide_true, decide_false, beq_self_eq_true, Bool.not_true, Int.reduceAdd, Int.reduceMul])))
    dsimp only [afterSeq]
    (with_reducible apply Vq.vseq)
    · repeat' (((first
      | (with_reducible exact Vq.runOps_nil)
      | ((with_reducible apply Vq.runOps_cons); (first | exact rfl))
      | ((with_reducible first | apply Vq.vret | apply Vq.vskip | apply Vq.vexit | apply Vq.vab0 | apply Vq.vab1 | apply Vq.vabr); exact rfl)
      | ((with_reducible apply Vq.vregion); case hr => exact rfl)
      | (with_reducible first | apply Vq.vseq | apply Vq.vblock)
      | ((with_reducible apply Vq.vcond); exact rfl; dsimp only [Vq.pickC])
      | ((with_reducible apply Vq.vabx); (· decide); exact rfl) | dsimp only [Vq.afterSeq]); (try simp only [z1, z2, z3, z4, z5, z6, z7, z8, z9, z10, z11, z12, z13, z14, z15, z16, z17, z18, V.withLeaves, V.borrow, freeze1, borrows, borrow1, V.leaves, V.nextg, Nat.reduceAdd, Nat.reduceSub, layTup, obj1, splice, Bool.false_eq_true, if_true, if_false, Bool.not_true, Bool.not_false, Int.reduceLT, decide_true, decide_false, beq_self_eq_true, Bool.not_true, Int.reduceAdd, Int.reduceMul])))
    dsimp only [afterSeq]
    (with_reducible apply Vq.vseq)
    · (with_reducible apply vblock)
      · (with_reducible apply Vq.vseq)
        · repeat' (((first
      | (with_reducible exact Vq.runOps_nil)
      | ((with_reducible apply Vq.runOps_cons); (first | exact rfl))
      | ((with_reducible first | apply Vq.vret | apply Vq.vskip | apply Vq.vexit | apply Vq.vab0 | apply Vq.vab1 | apply Vq.vabr); exact rfl)
      | ((with_reducible apply Vq.vregion); case hr => exact rfl)
      | (with_reducible first | apply Vq.vseq | apply Vq.vblock)
      | ((with_reducible apply Vq.vcond); exact rfl; dsimp only [Vq.pickC])
      | ((with_reducible apply Vq.vabx); (· decide); exact rfl) | dsimp only [Vq.afterSeq]); (try simp only [z1, z2, z3, z4, z5, z6, z7, z8, z9, z10, z11, z12, z13, z14, z15, z16, z17, z18, V.withLeaves, V.borrow, freeze1, borrows, borrow1, V.leaves, V.nextg, Nat.reduceAdd, Nat.reduceSub, layTup, obj1, splice, Bool.false_eq_true, if_true, if_false, Bool.not_true, Bool.not_false])))
        dsimp only [afterSeq]
        (with_reducible apply Vq.vseq)
        · repeat' (((first
      | (with_reducible exact Vq.runOps_nil)
      | ((with_reducible apply Vq.runOps_cons); (first | exact rfl))
      | ((with_reducible first | apply Vq.vret | apply Vq.vskip | apply Vq.vexit | apply Vq.vab0 | apply Vq.vab1 | apply Vq.vabr); exact rfl)
      | ((with_reducible apply Vq.vregion); case hr => exact rfl)
      | (with_reducible first | apply Vq.vseq | apply Vq.vblock)
      | ((with_reducible apply Vq.vcond); exact rfl; dsimp only [Vq.pickC])
      | ((with_reducible apply Vq.vabx); (· decide); exact rfl) | dsimp only [Vq.afterSeq]); (try simp only [z1, z2, z3, z4, z5, z6, z7, z8, z9, z10, z11, z12, z13, z14, z15, z16, z17, z18, V.withLeaves, V.borrow, freeze1, borrows, borrow1, V.leaves, V.nextg, Nat.reduceAdd, Nat.reduceSub, layTup, obj1, splice, Bool.false_eq_true, if_true, if_false, Bool.not_true, Bool.not_false, ha, hge])))
        dsimp only [afterSeq]
        (with_reducible apply Vq.vseq)
        · (with_reducible apply vdraw)
          case hr => exact rfl
          (apply Vq.runDraw_cons; exact rfl; kernel_rfl; exact rfl; (try simp only [z1, z2, z3, z4, z5, z6, z7, z8, z9, z10, z11, z12, z13, z14, z15, z16, z17, z18, V.withLeaves, V.borrow, freeze1, borrows, borrow1, V.leaves, V.nextg, Nat.reduceAdd, Nat.reduceSub, layTup, obj1, splice, Bool.false_eq_true, if_true, if_false, Bool.not_true, Bool.not_false]))
          (apply Vq.runDraw_cons; exact rfl; kernel_rfl; exact rfl; (try simp only [z1, z2, z3, z4, z5, z6, z7, z8, z9, z10, z11, z12, z13, z14, z15, z16, z17, z18, V.withLeaves, V.borrow, freeze1, borrows, borrow1, V.leaves, V.nextg, Nat.reduceAdd, Nat.reduceSub, layTup, obj1, splice, Bool.false_eq_true, if_true, if_false, Bool.not_true, Bool.not_false]))
          (apply Vq.runDraw_cons; exact rfl; kernel_rfl; exact rfl; (try simp only [z1, z2, z3, z4, z5, z6, z7, z8, z9, z10, z11, z12, z13, z14, z15, z16, z17, z18, V.withLeaves, V.borrow, freeze1, borrows, borrow1, V.leaves, V.nextg, Nat.reduceAdd, Nat.reduceSub, layTup, obj1, splice, Bool.false_eq_true, if_true, if_false, Bool.not_true, Bool.not_false]))
          (apply Vq.runDraw_cons; exact rfl; kernel_rfl; exact rfl; (try simp only [z1, z2, z3, z4, z5, z6, z7, z8, z9, z10, z11, z12, z13, z14, z15, z16, z17, z18, V.withLeaves, V.borrow, freeze1, borrows, borrow1, V.leaves, V.nextg, Nat.reduceAdd, Nat.reduceSub, layTup, obj1, splice, Bool.false_eq_true, if_true, if_false, Bool.not_true, Bool.not_false, ha]))
          apply runDraw_cons
          · apply S13.vidx_foot (rs := [.slot 77, .slot 74]) rfl rfl (Int.natCast_nonneg _) hg
            exact rfl
          · kernel_rfl
          · apply vidx rfl rfl (.inl rfl) (Int.natCast_nonneg _) hg
            exact rfl
          (try simp only [z1, z2, z3, z4, z5, z6, z7, z8, z9, z10, z11, z12, z13, z14, z15, z16, z17, z18, V.withLeaves, V.borrow, freeze1, borrows, borrow1, V.leaves, V.nextg, Nat.reduceAdd, Nat.reduceSub, layTup, obj1, splice, Bool.false_eq_true, if_true, if_false, Bool.not_true, Bool.not_false])
          (apply Vq.runDraw_cons; exact rfl; kernel_rfl; exact rfl; (try simp only [z1, z2, z3, z4, z5, z6, z7, z8, z9, z10, z11, z12, z13, z14, z15, z16, z17, z18, V.withLeaves, V.borrow, freeze1, borrows, borrow1, V.leaves, V.nextg, Nat.reduceAdd, Nat.reduceSub, layTup, obj1, splice, Bool.false_eq_true, if_true, if_false, Bool.not_true, Bool.not_false]))
          (apply Vq.runDraw_cons; exact rfl; kernel_rfl; exact rfl; (try simp only [z1, z2, z3, z4, z5, z6, z7, z8, z9, z10, z11, z12, z13, z14, z15, z16, z17, z18, V.withLeaves, V.borrow, freeze1, borrows, borrow1, V.leaves, V.nextg, Nat.reduceAdd, Nat.reduceSub, layTup, obj1, splice, Bool.false_eq_true, if_true, if_false, Bool.not_true, Bool.not_false]))
          (apply Vq.runDraw_cons; exact rfl; kernel_rfl; exact rfl; (try simp only [z1, z2, z3, z4, z5, z6, z7, z8, z9, z10, z11, z12, z13, z14, z15, z16, z17, z18, V.withLeaves, V.borrow, freeze1, borrows, borrow1, V.leaves, V.nextg, Nat.reduceAdd, Nat.reduceSub, layTup, obj1, splice, Bool.false_eq_true, if_true, if_false, Bool.not_true, Bool.not_false]))
          (apply Vq.runDraw_cons; exact rfl; kernel_rfl; exact rfl; (try simp only [z1, z2, z3, z4, z5, z6, z7, z8, z9, z10, z11, z12, z13, z14, z15, z16, z17, z18, V.withLeaves, V.borrow, freeze1, borrows, borrow1, V.leaves, V.nextg, Nat.reduceAdd, Nat.reduceSub, layTup, obj1, splice, Bool.false_eq_true, if_true, if_false, Bool.not_true, Bool.not_false]))
          (apply Vq.runDraw_cons; exact rfl; kernel_rfl; exact rfl; (try simp only [z1, z2, z3, z4, z5, z6, z7, z8, z9, z10, z11, z12, z13, z14, z15, z16, z17, z18, V.withLeaves, V.borrow, freeze1, borrows, borrow1, V.leaves, V.nextg, Nat.reduceAdd, Nat.reduceSub, layTup, obj1, splice, Bool.false_eq_true, if_true, if_false, Bool.not_true, Bool.not_false]))
          (apply Vq.runDraw_cons; exact rfl; kernel_rfl; exact rfl; (try simp only [z1, z2, z3, z4, z5, z6, z7, z8, z9, z10, z11, z12, z13, z14, z15, z16, z17, z18, V.withLeaves, V.borrow, freeze1, borrows, borrow1, V.leaves, V.nextg, Nat.reduceAdd, Nat.reduceSub, layTup, obj1, splice, Bool.false_eq_true, if_true, if_false, Bool.not_true, Bool.not_false, hw']))
          (apply Vq.runDraw_cons; exact rfl; kernel_rfl; exact rfl; (try simp only [z1, z2, z3, z4, z5, z6, z7, z8, z9, z10, z11, z12, z13, z14, z15, z16, z17, z18, V.withLeaves, V.borrow, freeze1, borrows, borrow1, V.leaves, V.nextg, Nat.reduceAdd, Nat.reduceSub, layTup, obj1, splice, Bool.false_eq_true, if_true, if_false, Bool.not_true, Bool.not_false, beq_self_eq_true, Bool.not_true]))
          exact runDraw_nil
        repeat' (((first
      | (with_reducible exact Vq.runOps_nil)
      | ((with_reducible apply Vq.runOps_cons); (first | exact rfl))
      | ((with_reducible first | apply Vq.vret | apply Vq.vskip | apply Vq.vexit | apply Vq.vab0 | apply Vq.vab1 | apply Vq.vabr); exact rfl)
      | ((with_reducible apply Vq.vregion); case hr => exact rfl)
      | (with_reducible first | apply Vq.vseq | apply Vq.vblock)
      | ((with_reducible apply Vq.vcond); exact rfl; dsimp only [Vq.pickC])
      | ((with_reducible apply Vq.vabx); (· decide); exact rfl) | dsimp only [Vq.afterSeq]); (try simp only [z1, z2, z3, z4, z5, z6, z7, z8, z9, z10, z11, z12, z13, z14, z15, z16, z17, z18, V.withLeaves, V.borrow, freeze1, borrows, borrow1, V.leaves, V.nextg, Nat.reduceAdd, Nat.reduceSub, layTup, obj1, splice, Bool.false_eq_true, if_true, if_false, Bool.not_true, Bool.not_false])))
      repeat' (((first
      | (with_reducible exact Vq.runOps_nil)
      | ((with_reducible apply Vq.runOps_cons); (first | exact rfl))
      | ((with_reducible first | apply Vq.vret | apply Vq.vskip | apply Vq.vexit | apply Vq.vab0 | apply Vq.vab1 | apply Vq.vabr); exact rfl)
      | ((with_reducible apply Vq.vregion); case hr => exact rfl)
      | (with_reducible first | apply Vq.vseq | apply Vq.vblock)
      | ((with_reducible apply Vq.vcond); exact rfl; dsimp only [Vq.pickC])
      | ((with_reducible apply Vq.vabx); (· decide); exact rfl) | dsimp only [Vq.afterSeq]); (try simp only [z1, z2, z3, z4, z5, z6, z7, z8, z9, z10, z11, z12, z13, z14, z15, z16, z17, z18, V.withLeaves, V.borrow, freeze1, borrows, borrow1, V.leaves, V.nextg, Nat.reduceAdd, Nat.reduceSub, layTup, obj1, splice, Bool.false_eq_true, if_true, if_false, Bool.not_true, Bool.not_false])))
    repeat' (((first
      | (with_reducible exact Vq.runOps_nil)
      | ((with_reducible apply Vq.runOps_cons); (first | exact rfl))
      | ((with_reducible first | apply Vq.vret | apply Vq.vskip | apply Vq.vexit | apply Vq.vab0 | apply Vq.vab1 | apply Vq.vabr); exact rfl)
      | ((with_reducible apply Vq.vregion); case hr => exact rfl)
      | (with_reducible first | apply Vq.vseq | apply Vq.vblock)
      | ((with_reducible apply Vq.vcond); exact rfl; dsimp only [Vq.pickC])
      | ((with_reducible apply Vq.vabx); (· decide); exact rfl) | dsimp only [Vq.afterSeq]); (try simp only [z1, z2, z3, z4, z5, z6, z7, z8, z9, z10, z11, z12, z13, z14, z15, z16, z17, z18, V.withLeaves, V.borrow, freeze1, borrows, borrow1, V.leaves, V.nextg, Nat.reduceAdd, Nat.reduceSub, layTup, obj1, splice, Bool.false_eq_true, if_true, if_false, Bool.not_true, Bool.not_false])))
  · kernel_rfl
theorem tl2 (l : List Nat) (used e sum : Nat) (w : Nat) (ha : IntKind.i64.wrap ((e : Int) + 2) = ((e + 2 : Nat) : Int)) (hge : decide (((e + 2 : Nat) : Int) ≥ ((byN l).length : Int)) = false) (hg : (byN l)[((e + 2 : Nat) : Int).toNat]? = some (.int .u8 w))
    (hw : IntKind.u8.wrap ((sum : Int).fdiv (2 ^ 16)) = (w : Int)) : ∃ s, step cal its again 0 bodyt (stt l used e sum 2) = some (.normal, s) ∧ rebase? (some [0, 2, 8, 9, 10, 40, 64]) 0 s = stt l used e sum 3 := by
  have hw' : IntKind.u8.wrap ((sum : Int).fdiv (2 ^ min (IntKind.i64.wrap (8 * 2)).toNat IntKind.u32.bits)) = (w : Int) := hw
  unfold bodyt stt
  apply vround
  · (with_reducible apply Vq.vseq)
    · repeat' (((first
      | (with_reducible exact Vq.runOps_nil)
      | ((with_reducible apply Vq.runOps_cons); (first | exact rfl))
      | ((with_reducible first | apply Vq.vret | apply Vq.vskip | apply Vq.vexit | apply Vq.vab0 | apply Vq.vab1 | apply Vq.vabr); exact rfl)
      | ((with_reducible apply Vq.vregion); case hr => exact rfl)
      | (with_reducible first | apply Vq.vseq | apply Vq.vblock)
      | ((with_reducible apply Vq.vcond); exact rfl; dsimp only [Vq.pickC])
      | ((with_reducible apply Vq.vabx); (· decide); exact rfl) | dsimp only [Vq.afterSeq]); (try simp only [z1, z2, z3, z4, z5, z6, z7, z8, z9, z10, z11, z12, z13, z14, z15, z16, z17, z18, V.withLeaves, V.borrow, freeze1, borrows, borrow1, V.leaves, V.nextg, Nat.reduceAdd, Nat.reduceSub, layTup, obj1, splice, Bool.false_eq_true, if_true, if_false, Bool.not_true, Bool.not_false, Int.reduceLT, decide_true, decide_false, beq_self_eq_true, Bool.not_true, Int.reduceAdd, Int.reduceMul])))
    dsimp only [afterSeq]
    (with_reducible apply Vq.vseq)
    · repeat' (((first
      | (with_reducible exact Vq.runOps_nil)
      | ((with_reducible apply Vq.runOps_cons); (first | exact rfl))
      | ((with_reducible first | apply Vq.vret | apply Vq.vskip | apply Vq.vexit | apply Vq.vab0 | apply Vq.vab1 | apply Vq.vabr); exact rfl)
      | ((with_reducible apply Vq.vregion); case hr => exact rfl)
      | (with_reducible first | apply Vq.vseq | apply Vq.vblock)
      | ((with_reducible apply Vq.vcond); exact rfl; dsimp only [Vq.pickC])
      | ((with_reducible apply Vq.vabx); (· decide); exact rfl) | dsimp only [Vq.afterSeq]); (try simp only [z1, z2, z3, z4, z5, z6, z7, z8, z9, z10, z11, z12, z13, z14, z15, z16, z17, z18, V.withLeaves, V.borrow, freeze1, borrows, borrow1, V.leaves, V.nextg, Nat.reduceAdd, Nat.reduceSub, layTup, obj1, splice, Bool.false_eq_true, if_true, if_false, Bool.not_true, Bool.not_false, Int.reduceLT, decide_true, decide_false, beq_self_eq_true, Bool.not_true, Int.reduceAdd, Int.reduceMul])))
    dsimp only [afterSeq]
    (with_reducible apply Vq.vseq)
    · (with_reducible apply vblock)
      · (with_reducible apply Vq.vseq)
        · repeat' (((first
      | (with_reducible exact Vq.runOps_nil)
      | ((with_reducible apply Vq.runOps_cons); (first | exact rfl))
      | ((with_reducible first | apply Vq.vret | apply Vq.vskip | apply Vq.vexit | apply Vq.vab0 | apply Vq.vab1 | apply Vq.vabr); exact rfl)
      | ((with_reducible apply Vq.vregion); case hr => exact rfl)
      | (with_reducible first | apply Vq.vseq | apply Vq.vblock)
      | ((with_reducible apply Vq.vcond); exact rfl; dsimp only [Vq.pickC])
      | ((with_reducible apply Vq.vabx); (· decide); exact rfl) | dsimp only [Vq.afterSeq]); (try simp only [z1, z2, z3, z4, z5, z6, z7, z8, z9, z10, z11, z12, z13, z14, z15, z16, z17, z18, V.withLeaves, V.borrow, freeze1, borrows, borrow1, V.leaves, V.nextg, Nat.reduceAdd, Nat.reduceSub, layTup, obj1, splice, Bool.false_eq_true, if_true, if_false, Bool.not_true, Bool.not_false])))
        dsimp only [afterSeq]
        (with_reducible apply Vq.vseq)
        · repeat' (((first
      | (with_reducible exact Vq.runOps_nil)
      | ((with_reducible apply Vq.runOps_cons); (first | exact rfl))
      | ((with_reducible first | apply Vq.vret | apply Vq.vskip | apply Vq.vexit | apply Vq.vab0 | apply Vq.vab1 | apply Vq.vabr); exact rfl)
      | ((with_reducible apply Vq.vregion); case hr => exact rfl)
      | (with_reducible first | apply Vq.vseq | apply Vq.vblock)
      | ((with_reducible apply Vq.vcond); exact rfl; dsimp only [Vq.pickC])
      | ((with_reducible apply Vq.vabx); (· decide); exact rfl) | dsimp only [Vq.afterSeq]); (try simp only [z1, z2, z3, z4, z5, z6, z7, z8, z9, z10, z11, z12, z13, z14, z15, z16, z17, z18, V.withLeaves, V.borrow, freeze1, borrows, borrow1, V.leaves, V.nextg, Nat.reduceAdd, Nat.reduceSub, layTup, obj1, splice, Bool.false_eq_true, if_true, if_false, Bool.not_true, Bool.not_false, ha, hge])))
        dsimp only [afterSeq]
        (with_reducible apply Vq.vseq)
        · (with_reducible apply vdraw)
          case hr => exact rfl
          (apply Vq.runDraw_cons; exact rfl; kernel_rfl; exact rfl; (try simp only [z1, z2, z3, z4, z5, z6, z7, z8, z9, z10, z11, z12, z13, z14, z15, z16, z17, z18, V.withLeaves, V.borrow, freeze1, borrows, borrow1, V.leaves, V.nextg, Nat.reduceAdd, Nat.reduceSub, layTup, obj1, splice, Bool.false_eq_true, if_true, if_false, Bool.not_true, Bool.not_false]))
          (apply Vq.runDraw_cons; exact rfl; kernel_rfl; exact rfl; (try simp only [z1, z2, z3, z4, z5, z6, z7, z8, z9, z10, z11, z12, z13, z14, z15, z16, z17, z18, V.withLeaves, V.borrow, freeze1, borrows, borrow1, V.leaves, V.nextg, Nat.reduceAdd, Nat.reduceSub, layTup, obj1, splice, Bool.false_eq_true, if_true, if_false, Bool.not_true, Bool.not_false]))
          (apply Vq.runDraw_cons; exact rfl; kernel_rfl; exact rfl; (try simp only [z1, z2, z3, z4, z5, z6, z7, z8, z9, z10, z11, z12, z13, z14, z15, z16, z17, z18, V.withLeaves, V.borrow, freeze1, borrows, borrow1, V.leaves, V.nextg, Nat.reduceAdd, Nat.reduceSub, layTup, obj1, splice, Bool.false_eq_true, if_true, if_false, Bool.not_true, Bool.not_false]))
          (apply Vq.runDraw_cons; exact rfl; kernel_rfl; exact rfl; (try simp only [z1, z2, z3, z4, z5, z6, z7, z8, z9, z10, z11, z12, z13, z14, z15, z16, z17, z18, V.withLeaves, V.borrow, freeze1, borrows, borrow1, V.leaves, V.nextg, Nat.reduceAdd, Nat.reduceSub, layTup, obj1, splice, Bool.false_eq_true, if_true, if_false, Bool.not_true, Bool.not_false, ha]))
          apply runDraw_cons
          · apply S13.vidx_foot (rs := [.slot 77, .slot 74]) rfl rfl (Int.natCast_nonneg _) hg
            exact rfl
          · kernel_rfl
          · apply vidx rfl rfl (.inl rfl) (Int.natCast_nonneg _) hg
            exact rfl
          (try simp only [z1, z2, z3, z4, z5, z6, z7, z8, z9, z10, z11, z12, z13, z14, z15, z16, z17, z18, V.withLeaves, V.borrow, freeze1, borrows, borrow1, V.leaves, V.nextg, Nat.reduceAdd, Nat.reduceSub, layTup, obj1, splice, Bool.false_eq_true, if_true, if_false, Bool.not_true, Bool.not_false])
          (apply Vq.runDraw_cons; exact rfl; kernel_rfl; exact rfl; (try simp only [z1, z2, z3, z4, z5, z6, z7, z8, z9, z10, z11, z12, z13, z14, z15, z16, z17, z18, V.withLeaves, V.borrow, freeze1, borrows, borrow1, V.leaves, V.nextg, Nat.reduceAdd, Nat.reduceSub, layTup, obj1, splice, Bool.false_eq_true, if_true, if_false, Bool.not_true, Bool.not_false]))
          (apply Vq.runDraw_cons; exact rfl; kernel_rfl; exact rfl; (try simp only [z1, z2, z3, z4, z5, z6, z7, z8, z9, z10, z11, z12, z13, z14, z15, z16, z17, z18, V.withLeaves, V.borrow, freeze1, borrows, borrow1, V.leaves, V.nextg, Nat.reduceAdd, Nat.reduceSub, layTup, obj1, splice, Bool.false_eq_true, if_true, if_false, Bool.not_true, Bool.not_false]))
          (apply Vq.runDraw_cons; exact rfl; kernel_rfl; exact rfl; (try simp only [z1, z2, z3, z4, z5, z6, z7, z8, z9, z10, z11, z12, z13, z14, z15, z16, z17, z18, V.withLeaves, V.borrow, freeze1, borrows, borrow1, V.leaves, V.nextg, Nat.reduceAdd, Nat.reduceSub, layTup, obj1, splice, Bool.false_eq_true, if_true, if_false, Bool.not_true, Bool.not_false]))
          (apply Vq.runDraw_cons; exact rfl; kernel_rfl; exact rfl; (try simp only [z1, z2, z3, z4, z5, z6, z7, z8, z9, z10, z11, z12, z13, z14, z15, z16, z17, z18, V.withLeaves, V.borrow, freeze1, borrows, borrow1, V.leaves, V.nextg, Nat.reduceAdd, Nat.reduceSub, layTup, obj1, splice, Bool.false_eq_true, if_true, if_false, Bool.not_true, Bool.not_false]))
          (apply Vq.runDraw_cons; exact rfl; kernel_rfl; exact rfl; (try simp only [z1, z2, z3, z4, z5, z6, z7, z8, z9, z10, z11, z12, z13, z14, z15, z16, z17, z18, V.withLeaves, V.borrow, freeze1, borrows, borrow1, V.leaves, V.nextg, Nat.reduceAdd, Nat.reduceSub, layTup, obj1, splice, Bool.false_eq_true, if_true, if_false, Bool.not_true, Bool.not_false]))
          (apply Vq.runDraw_cons; exact rfl; kernel_rfl; exact rfl; (try simp only [z1, z2, z3, z4, z5, z6, z7, z8, z9, z10, z11, z12, z13, z14, z15, z16, z17, z18, V.withLeaves, V.borrow, freeze1, borrows, borrow1, V.leaves, V.nextg, Nat.reduceAdd, Nat.reduceSub, layTup, obj1, splice, Bool.false_eq_true, if_true, if_false, Bool.not_true, Bool.not_false, hw']))
          (apply Vq.runDraw_cons; exact rfl; kernel_rfl; exact rfl; (try simp only [z1, z2, z3, z4, z5, z6, z7, z8, z9, z10, z11, z12, z13, z14, z15, z16, z17, z18, V.withLeaves, V.borrow, freeze1, borrows, borrow1, V.leaves, V.nextg, Nat.reduceAdd, Nat.reduceSub, layTup, obj1, splice, Bool.false_eq_true, if_true, if_false, Bool.not_true, Bool.not_false, beq_self_eq_true, Bool.not_true]))
          exact runDraw_nil
        repeat' (((first
      | (with_reducible exact Vq.runOps_nil)
      | ((with_reducible apply Vq.runOps_cons); (first | exact rfl))
      | ((with_reducible first | apply Vq.vret | apply Vq.vskip | apply Vq.vexit | apply Vq.vab0 | apply Vq.vab1 | apply Vq.vabr); exact rfl)
      | ((with_reducible apply Vq.vregion); case hr => exact rfl)
      | (with_reducible first | apply Vq.vseq | apply Vq.vblock)
      | ((with_reducible apply Vq.vcond); exact rfl; dsimp only [Vq.pickC])
      | ((with_reducible apply Vq.vabx); (· decide); exact rfl) | dsimp only [Vq.afterSeq]); (try simp only [z1, z2, z3, z4, z5, z6, z7, z8, z9, z10, z11, z12, z13, z14, z15, z16, z17, z18, V.withLeaves, V.borrow, freeze1, borrows, borrow1, V.leaves, V.nextg, Nat.reduceAdd, Nat.reduceSub, layTup, obj1, splice, Bool.false_eq_true, if_true, if_false, Bool.not_true, Bool.not_false])))
      repeat' (((first
      | (with_reducible exact Vq.runOps_nil)
      | ((with_reducible apply Vq.runOps_cons); (first | exact rfl))
      | ((with_reducible first | apply Vq.vret | apply Vq.vskip | apply Vq.vexit | apply Vq.vab0 | apply Vq.vab1 | apply Vq.vabr); exact rfl)
      | ((with_reducible apply Vq.vregion); case hr => exact rfl)
      | (with_reducible first | apply Vq.vseq | apply Vq.vblock)
      | ((with_reducible apply Vq.vcond); exact rfl; dsimp only [Vq.pickC])
      | ((with_reducible apply Vq.vabx); (· decide); exact rfl) | dsimp only [Vq.afterSeq]); (try simp only [z1, z2, z3, z4, z5, z6, z7, z8, z9, z10, z11, z12, z13, z14, z15, z16, z17, z18, V.withLeaves, V.borrow, freeze1, borrows, borrow1, V.leaves, V.nextg, Nat.reduceAdd, Nat.reduceSub, layTup, obj1, splice, Bool.false_eq_true, if_true, if_false, Bool.not_true, Bool.not_false])))
    repeat' (((first
      | (with_reducible exact Vq.runOps_nil)
      | ((with_reducible apply Vq.runOps_cons); (first | exact rfl))
      | ((with_reducible first | apply Vq.vret | apply Vq.vskip | apply Vq.vexit | apply Vq.vab0 | apply Vq.vab1 | apply Vq.vabr); exact rfl)
      | ((with_reducible apply Vq.vregion); case hr => exact rfl)
      | (with_reducible first | apply Vq.vseq | apply Vq.vblock)
      | ((with_reducible apply Vq.vcond); exact rfl; dsimp only [Vq.pickC])
      | ((with_reducible apply Vq.vabx); (· decide); exact rfl) | dsimp only [Vq.afterSeq]); (try simp only [z1, z2, z3, z4, z5, z6, z7, z8, z9, z10, z11, z12, z13, z14, z15, z16, z17, z18, V.withLeaves, V.borrow, freeze1, borrows, borrow1, V.leaves, V.nextg, Nat.reduceAdd, Nat.reduceSub, layTup, obj1, splice, Bool.false_eq_true, if_true, if_false, Bool.not_true, Bool.not_false])))
  · kernel_rfl
theorem tl3 (l : List Nat) (used e sum : Nat) (w : Nat) (ha : IntKind.i64.wrap ((e : Int) + 3) = ((e + 3 : Nat) : Int)) (hge : decide (((e + 3 : Nat) : Int) ≥ ((byN l).length : Int)) = false) (hg : (byN l)[((e + 3 : Nat) : Int).toNat]? = some (.int .u8 w))
    (hw : IntKind.u8.wrap ((sum : Int).fdiv (2 ^ 24)) = (w : Int)) : ∃ s, step cal its again 0 bodyt (stt l used e sum 3) = some (.normal, s) ∧ rebase? (some [0, 2, 8, 9, 10, 40, 64]) 0 s = stt l used e sum 4 := by
  have hw' : IntKind.u8.wrap ((sum : Int).fdiv (2 ^ min (IntKind.i64.wrap (8 * 3)).toNat IntKind.u32.bits)) = (w : Int) := hw
  unfold bodyt stt
  apply vround
  · (with_reducible apply Vq.vseq)
    · repeat' (((first
      | (with_reducible exact Vq.runOps_nil)
      | ((with_reducible apply Vq.runOps_cons); (first | exact rfl))
      | ((with_reducible first | apply Vq.vret | apply Vq.vskip | apply Vq.vexit | apply Vq.vab0 | apply Vq.vab1 | apply Vq.vabr); exact rfl)
      | ((with_reducible apply Vq.vregion); case hr => exact rfl)
      | (with_reducible first | apply Vq.vseq | apply Vq.vblock)
      | ((with_reducible apply Vq.vcond); exact rfl; dsimp only [Vq.pickC])
      | ((with_reducible apply Vq.vabx); (· decide); exact rfl) | dsimp only [Vq.afterSeq]); (try simp only [z1, z2, z3, z4, z5, z6, z7, z8, z9, z10, z11, z12, z13, z14, z15, z16, z17, z18, V.withLeaves, V.borrow, freeze1, borrows, borrow1, V.leaves, V.nextg, Nat.reduceAdd, Nat.reduceSub, layTup, obj1, splice, Bool.false_eq_true, if_true, if_false, Bool.not_true, Bool.not_false, Int.reduceLT, decide_true, decide_false, beq_self_eq_true, Bool.not_true, Int.reduceAdd, Int.reduceMul])))
    dsimp only [afterSeq]
    (with_reducible apply Vq.vseq)
    · repeat' (((first
      | (with_reducible exact Vq.runOps_nil)
      | ((with_reducible apply Vq.runOps_cons); (first | exact rfl))
      | ((with_reducible first | apply Vq.vret | apply Vq.vskip | apply Vq.vexit | apply Vq.vab0 | apply Vq.vab1 | apply Vq.vabr); exact rfl)
      | ((with_reducible apply Vq.vregion); case hr => exact rfl)
      | (with_reducible first | apply Vq.vseq | apply Vq.vblock)
      | ((with_reducible apply Vq.vcond); exact rfl; dsimp only [Vq.pickC])
      | ((with_reducible apply Vq.vabx); (· decide); exact rfl) | dsimp only [Vq.afterSeq]); (try simp only [z1, z2, z3, z4, z5, z6, z7, z8, z9, z10, z11, z12, z13, z14, z15, z16, z17, z18, V.withLeaves, V.borrow, freeze1, borrows, borrow1, V.leaves, V.nextg, Nat.reduceAdd, Nat.reduceSub, layTup, obj1, splice, Bool.false_eq_true, if_true, if_false, Bool.not_true, Bool.not_false, Int.reduceLT, decide_true, decide_false, beq_self_eq_true, Bool.not_true, Int.reduceAdd, Int.reduceMul])))
    dsimp only [afterSeq]
    (with_reducible apply Vq.vseq)
    · (with_reducible apply vblock)
      · (with_reducible apply Vq.vseq)
        · repeat' (((first
      | (with_reducible exact Vq.runOps_nil)
      | ((with_reducible apply Vq.runOps_cons); (first | exact rfl))
      | ((with_reducible first | apply Vq.vret | apply Vq.vskip | apply Vq.vexit | apply Vq.vab0 | apply Vq.vab1 | apply Vq.vabr); exact rfl)
      | ((with_reducible apply Vq.vregion); case hr => exact rfl)
      | (with_reducible first | apply Vq.vseq | apply Vq.vblock)
      | ((with_reducible apply Vq.vcond); exact rfl; dsimp only [Vq.pickC])
      | ((with_reducible apply Vq.vabx); (· decide); exact rfl) | dsimp only [Vq.afterSeq]); (try simp only [z1, z2, z3, z4, z5, z6, z7, z8, z9, z10, z11, z12, z13, z14, z15, z16, z17, z18, V.withLeaves, V.borrow, freeze1, borrows, borrow1, V.leaves, V.nextg, Nat.reduceAdd, Nat.reduceSub, layTup, obj1, splice, Bool.false_eq_true, if_true, if_false, Bool.not_true, Bool.not_false])))
        dsimp only [afterSeq]
        (with_reducible apply Vq.vseq)
        · repeat' (((first
      | (with_reducible exact Vq.runOps_nil)
      | ((with_reducible apply Vq.runOps_cons); (first | exact rfl))
      | ((with_reducible first | apply Vq.vret | apply Vq.vskip | apply Vq.vexit | apply Vq.vab0 | apply Vq.vab1 | apply Vq.vabr); exact rfl)
      | ((with_reducible apply Vq.vregion); case hr => exact rfl)
      | (with_reducible first | apply Vq.vseq | apply Vq.vblock)
      | ((with_reducible apply Vq.vcond); exact rfl; dsimp only [Vq.pickC])
      | ((with_reducible apply Vq.vabx); (· decide); exact rfl) | dsimp only [Vq.afterSeq]); (try simp only [z1, z2, z3, z4, z5, z6, z7, z8, z9, z10, z11, z12, z13, z14, z15, z16, z17, z18, V.withLeaves, V.borrow, freeze1, borrows, borrow1, V.leaves, V.nextg, Nat.reduceAdd, Nat.reduceSub, layTup, obj1, splice, Bool.false_eq_true, if_true, if_false, Bool.not_true, Bool.not_false, ha, hge])))
        dsimp only [afterSeq]
        (with_reducible apply Vq.vseq)
        · (with_reducible apply vdraw)
          case hr => exact rfl
          (apply Vq.runDraw_cons; exact rfl; kernel_rfl; exact rfl; (try simp only [z1, z2, z3, z4, z5, z6, z7, z8, z9, z10, z11, z12, z13, z14, z15, z16, z17, z18, V.withLeaves, V.borrow, freeze1, borrows, borrow1, V.leaves, V.nextg, Nat.reduceAdd, Nat.reduceSub, layTup, obj1, splice, Bool.false_eq_true, if_true, if_false, Bool.not_true, Bool.not_false]))
          (apply Vq.runDraw_cons; exact rfl; kernel_rfl; exact rfl; (try simp only [z1, z2, z3, z4, z5, z6, z7, z8, z9, z10, z11, z12, z13, z14, z15, z16, z17, z18, V.withLeaves, V.borrow, freeze1, borrows, borrow1, V.leaves, V.nextg, Nat.reduceAdd, Nat.reduceSub, layTup, obj1, splice, Bool.false_eq_true, if_true, if_false, Bool.not_true, Bool.not_false]))
          (apply Vq.runDraw_cons; exact rfl; kernel_rfl; exact rfl; (try simp only [z1, z2, z3, z4, z5, z6, z7, z8, z9, z10, z11, z12, z13, z14, z15, z16, z17, z18, V.withLeaves, V.borrow, freeze1, borrows, borrow1, V.leaves, V.nextg, Nat.reduceAdd, Nat.reduceSub, layTup, obj1, splice, Bool.false_eq_true, if_true, if_false, Bool.not_true, Bool.not_false]))
          (apply Vq.runDraw_cons; exact rfl; kernel_rfl; exact rfl; (try simp only [z1, z2, z3, z4, z5, z6, z7, z8, z9, z10, z11, z12, z13, z14, z15, z16, z17, z18, V.withLeaves, V.borrow, freeze1, borrows, borrow1, V.leaves, V.nextg, Nat.reduceAdd, Nat.reduceSub, layTup, obj1, splice, Bool.false_eq_true, if_true, if_false, Bool.not_true, Bool.not_false, ha]))
          apply runDraw_cons
          · apply S13.vidx_foot (rs := [.slot 77, .slot 74]) rfl rfl (Int.natCast_nonneg _) hg
            exact rfl
          · kernel_rfl
          · apply vidx rfl rfl (.inl rfl) (Int.natCast_nonneg _) hg
            exact rfl
          (try simp only [z1, z2, z3, z4, z5, z6, z7, z8, z9, z10, z11, z12, z13, z14, z15, z16, z17, z18, V.withLeaves, V.borrow, freeze1, borrows, borrow1, V.leaves, V.nextg, Nat.reduceAdd, Nat.reduceSub, layTup, obj1, splice, Bool.false_eq_true, if_true, if_false, Bool.not_true, Bool.not_false])
          (apply Vq.runDraw_cons; exact rfl; kernel_rfl; exact rfl; (try simp only [z1, z2, z3, z4, z5, z6, z7, z8, z9, z10, z11, z12, z13, z14, z15, z16, z17, z18, V.withLeaves, V.borrow, freeze1, borrows, borrow1, V.leaves, V.nextg, Nat.reduceAdd, Nat.reduceSub, layTup, obj1, splice, Bool.false_eq_true, if_true, if_false, Bool.not_true, Bool.not_false]))
          (apply Vq.runDraw_cons; exact rfl; kernel_rfl; exact rfl; (try simp only [z1, z2, z3, z4, z5, z6, z7, z8, z9, z10, z11, z12, z13, z14, z15, z16, z17, z18, V.withLeaves, V.borrow, freeze1, borrows, borrow1, V.leaves, V.nextg, Nat.reduceAdd, Nat.reduceSub, layTup, obj1, splice, Bool.false_eq_true, if_true, if_false, Bool.not_true, Bool.not_false]))
          (apply Vq.runDraw_cons; exact rfl; kernel_rfl; exact rfl; (try simp only [z1, z2, z3, z4, z5, z6, z7, z8, z9, z10, z11, z12, z13, z14, z15, z16, z17, z18, V.withLeaves, V.borrow, freeze1, borrows, borrow1, V.leaves, V.nextg, Nat.reduceAdd, Nat.reduceSub, layTup, obj1, splice, Bool.false_eq_true, if_true, if_false, Bool.not_true, Bool.not_false]))
          (apply Vq.runDraw_cons; exact rfl; kernel_rfl; exact rfl; (try simp only [z1, z2, z3, z4, z5, z6, z7, z8, z9, z10, z11, z12, z13, z14, z15, z16, z17, z18, V.withLeaves, V.borrow, freeze1, borrows, borrow1, V.leaves, V.nextg, Nat.reduceAdd, Nat.reduceSub, layTup, obj1, splice, Bool.false_eq_true, if_true, if_false, Bool.not_true, Bool.not_false]))
          (apply Vq.runDraw_cons; exact rfl; kernel_rfl; exact rfl; (try simp only [z1, z2, z3, z4, z5, z6, z7, z8, z9, z10, z11, z12, z13, z14, z15, z16, z17, z18, V.withLeaves, V.borrow, freeze1, borrows, borrow1, V.leaves, V.nextg, Nat.reduceAdd, Nat.reduceSub, layTup, obj1, splice, Bool.false_eq_true, if_true, if_false, Bool.not_true, Bool.not_false]))
          (apply Vq.runDraw_cons; exact rfl; kernel_rfl; exact rfl; (try simp only [z1, z2, z3, z4, z5, z6, z7, z8, z9, z10, z11, z12, z13, z14, z15, z16, z17, z18, V.withLeaves, V.borrow, freeze1, borrows, borrow1, V.leaves, V.nextg, Nat.reduceAdd, Nat.reduceSub, layTup, obj1, splice, Bool.false_eq_true, if_true, if_false, Bool.not_true, Bool.not_false, hw']))
          (apply Vq.runDraw_cons; exact rfl; kernel_rfl; exact rfl; (try simp only [z1, z2, z3, z4, z5, z6, z7, z8, z9, z10, z11, z12, z13, z14, z15, z16, z17, z18, V.withLeaves, V.borrow, freeze1, borrows, borrow1, V.leaves, V.nextg, Nat.reduceAdd, Nat.reduceSub, layTup, obj1, splice, Bool.false_eq_true, if_true, if_false, Bool.not_true, Bool.not_false, beq_self_eq_true, Bool.not_true]))
          exact runDraw_nil
        repeat' (((first
      | (with_reducible exact Vq.runOps_nil)
      | ((with_reducible apply Vq.runOps_cons); (first | exact rfl))
      | ((with_reducible first | apply Vq.vret | apply Vq.vskip | apply Vq.vexit | apply Vq.vab0 | apply Vq.vab1 | apply Vq.vabr); exact rfl)
      | ((with_reducible apply Vq.vregion); case hr => exact rfl)
      | (with_reducible first | apply Vq.vseq | apply Vq.vblock)
      | ((with_reducible apply Vq.vcond); exact rfl; dsimp only [Vq.pickC])
      | ((with_reducible apply Vq.vabx); (· decide); exact rfl) | dsimp only [Vq.afterSeq]); (try simp only [z1, z2, z3, z4, z5, z6, z7, z8, z9, z10, z11, z12, z13, z14, z15, z16, z17, z18, V.withLeaves, V.borrow, freeze1, borrows, borrow1, V.leaves, V.nextg, Nat.reduceAdd, Nat.reduceSub, layTup, obj1, splice, Bool.false_eq_true, if_true, if_false, Bool.not_true, Bool.not_false])))
      repeat' (((first
      | (with_reducible exact Vq.runOps_nil)
      | ((with_reducible apply Vq.runOps_cons); (first | exact rfl))
      | ((with_reducible first | apply Vq.vret | apply Vq.vskip | apply Vq.vexit | apply Vq.vab0 | apply Vq.vab1 | apply Vq.vabr); exact rfl)
      | ((with_reducible apply Vq.vregion); case hr => exact rfl)
      | (with_reducible first | apply Vq.vseq | apply Vq.vblock)
      | ((with_reducible apply Vq.vcond); exact rfl; dsimp only [Vq.pickC])
      | ((with_reducible apply Vq.vabx); (· decide); exact rfl) | dsimp only [Vq.afterSeq]); (try simp only [z1, z2, z3, z4, z5, z6, z7, z8, z9, z10, z11, z12, z13, z14, z15, z16, z17, z18, V.withLeaves, V.borrow, freeze1, borrows, borrow1, V.leaves, V.nextg, Nat.reduceAdd, Nat.reduceSub, layTup, obj1, splice, Bool.false_eq_true, if_true, if_false, Bool.not_true, Bool.not_false])))
    repeat' (((first
      | (with_reducible exact Vq.runOps_nil)
      | ((with_reducible apply Vq.runOps_cons); (first | exact rfl))
      | ((with_reducible first | apply Vq.vret | apply Vq.vskip | apply Vq.vexit | apply Vq.vab0 | apply Vq.vab1 | apply Vq.vabr); exact rfl)
      | ((with_reducible apply Vq.vregion); case hr => exact rfl)
      | (with_reducible first | apply Vq.vseq | apply Vq.vblock)
      | ((with_reducible apply Vq.vcond); exact rfl; dsimp only [Vq.pickC])
      | ((with_reducible apply Vq.vabx); (· decide); exact rfl) | dsimp only [Vq.afterSeq]); (try simp only [z1, z2, z3, z4, z5, z6, z7, z8, z9, z10, z11, z12, z13, z14, z15, z16, z17, z18, V.withLeaves, V.borrow, freeze1, borrows, borrow1, V.leaves, V.nextg, Nat.reduceAdd, Nat.reduceSub, layTup, obj1, splice, Bool.false_eq_true, if_true, if_false, Bool.not_true, Bool.not_false])))
  · kernel_rfl
theorem tlx (l : List Nat) (used e sum : Nat) : step cal its again 0 bodyt (stt l used e sum 4) = some (.exit 3, ext l used e sum) := by
  unfold bodyt stt ext
  repeat' (((first
      | (with_reducible exact Vq.runOps_nil)
      | ((with_reducible apply Vq.runOps_cons); (first | exact rfl))
      | ((with_reducible first | apply Vq.vret | apply Vq.vskip | apply Vq.vexit | apply Vq.vab0 | apply Vq.vab1 | apply Vq.vabr); exact rfl)
      | ((with_reducible apply Vq.vregion); case hr => exact rfl)
      | (with_reducible first | apply Vq.vseq | apply Vq.vblock)
      | ((with_reducible apply Vq.vcond); exact rfl; dsimp only [Vq.pickC])
      | ((with_reducible apply Vq.vabx); (· decide); exact rfl) | dsimp only [Vq.afterSeq]); (try simp only [z1, z2, z3, z4, z5, z6, z7, z8, z9, z10, z11, z12, z13, z14, z15, z16, z17, z18, V.withLeaves, V.borrow, freeze1, borrows, borrow1, V.leaves, V.nextg, Nat.reduceAdd, Nat.reduceSub, layTup, obj1, splice, Bool.false_eq_true, if_true, if_false, Bool.not_true, Bool.not_false, Int.reduceLT, decide_true, decide_false, beq_self_eq_true, Bool.not_true, Int.reduceAdd, Int.reduceMul])))
theorem add_nat (e i : Nat) (h : e + i < 9223372036854775808) : IntKind.i64.wrap ((e : Int) + (i : Int)) = ((e + i : Nat) : Int) := wrap_i64 (e + i) h
theorem loopt (G : VProg) (l : List Nat) (used e sum : Nat) (hl : l.length < 2 ^ 40) (he : e + 4 ≤ l.length) (h4 : ∀ i, i < 4 → (l[e + i]?) = some (sum / 2 ^ (8 * i) % 256)) (m : Nat) (hm : 4 ≤ m) (σ : St) (hr : rebase? (some [0, 2, 8, 9, 10, 40, 64]) 0 σ = stt l used e sum 0) :
    step (call G m) (itersOf G) (exec G m) 0 (.loop (some [0, 2, 8, 9, 10, 40, 64]) bodyt) σ = some (.exit 3, ext l used e sum) := by
  obtain ⟨m, rfl⟩ : ∃ k, m = k + 4 := ⟨m - 4, by omega⟩
  have hge : ∀ i, i < 4 → decide (((e + i : Nat) : Int) ≥ ((byN l).length : Int)) = false := fun i hi => by rw [byN_len]; simp; omega
  have hg : ∀ i, i < 4 → (byN l)[((e + i : Nat) : Int).toNat]? = some (.int .u8 (sum / 2 ^ (8 * i) % 256 : Nat)) := fun i hi => by
    rw [Int.toNat_natCast, byN, List.getElem?_map, h4 i hi]
    rfl
  have hw : ∀ i : Nat, IntKind.u8.wrap ((sum : Int).fdiv (2 ^ (8 * i))) = ((sum / 2 ^ (8 * i) % 256 : Nat) : Int) := fun i => by
    rw [Int.fdiv_eq_ediv_of_nonneg _ (Int.le_of_lt (Int.pow_pos (by decide))), wrap8]
    have : (2 : Int) ^ (8 * i) = ((2 ^ (8 * i) : Nat) : Int) := by rw [Int.natCast_pow]; rfl
    rw [this]
    omega
  obtain ⟨r0, a0, b0⟩ := tl0 (call G (m + 4)) (itersOf G) (exec G (m + 4)) l used e sum _ (add_nat e 0 (by omega)) (hge 0 (by omega)) (hg 0 (by omega)) (hw 0)
  refine step_loop hr a0 ?_
  rw [exec_succ]
  obtain ⟨r1, a1, b1⟩ := tl1 (call G (m + 3)) (itersOf G) (exec G (m + 3)) l used e sum _ (add_nat e 1 (by omega)) (hge 1 (by omega)) (hg 1 (by omega)) (hw 1)
  refine step_loop b0 a1 ?_
  rw [exec_succ]
  obtain ⟨r2, a2, b2⟩ := tl2 (call G (m + 2)) (itersOf G) (exec G (m + 2)) l used e sum _ (add_nat e 2 (by omega)) (hge 2 (by omega)) (hg 2 (by omega)) (hw 2)
  refine step_loop b1 a2 ?_
  rw [exec_succ]
  obtain ⟨r3, a3, b3⟩ := tl3 (call G (m + 1)) (itersOf G) (exec G (m + 1)) l used e sum _ (add_nat e 3 (by omega)) (hge 3 (by omega)) (hg 3 (by omega)) (hw 3)
  refine step_loop b2 a3 ?_
  rw [exec_succ]
  exact step_loop_out b3 (tlx _ _ _ l used e sum) (by intro e; cases e)
end S13
end Go.Vq

namespace Go.Vq
namespace S14
open Go S2 S3 S4 S5 S6 S7 S8 S9 S10 S11 S12 S13
set_option maxRecDepth 1000000
abbrev H52 (G : VProg) : Prop := ∀ (l : List Nat) (lim m : Nat), l.length < 2 ^ 40 → (∀ x ∈ l, x < 256) → lim < 2 ^ 64 → 12 ≤ m → call G m 52 [.isl 0 1 (byN l), .int .u64 lim] [] = some (.tup [.int .u64 (dec lim 0 0 l).1, .int .i64 (dec lim 0 0 l).2], [])
abbrev H53 (G : VProg) : Prop := ∀ (m : Nat) (es : List V), es.length ≤ 140737488355328 → call G m 53 [.isl 0 1 es] [] = some (.xsl 0 1 es, [])
section
variable {cal : Callee} {σ τ : St} {base : Nat}
theorem vidxV_foot {d : Option Nat} {t sz g bf : Nat} {es : List V} {e : V} {k : IntKind} {m : Int} {fr : List Loc × List Loc} (hx : σ.slot t = .isl g sz es) (h0 : 0 ≤ m) (he : es[m.toNat]? = some e) (hp : (putO d (.iptr e.cells) .ret).foot σ = fr) :
    (VOper.prog cal base ⟨d, .indexAddr none sz (.tmp t) (.val (.int k m)), none, bf⟩).foot σ = ([.slot t] ++ fr.1, fr.2) := by
  simp only [VOper.prog, opProg, gInt, gOpd, Prog.foot, hx]
  rw [if_pos ⟨h0, trivial⟩, he]
  simp only [hp]
  rfl
theorem vsl_foot {d : Option Nat} {x lo hi g bf : Nat} {es : List V} {k k' : IntKind} {a b : Int} {fr : List Loc × List Loc} (hx : σ.slot x = .isl g 1 es) (hlo : σ.slot lo = .int k a) (hhi : σ.slot hi = .int k' b) (h : 0 ≤ a ∧ a ≤ b ∧ b ≤ es.length) (hp : (putO d (.isl 0 1 ((es.drop a.toNat).take (b.toNat - a.toNat))) .ret).foot σ = fr) :
    (VOper.prog cal base ⟨d, .slice (.slc 1) (.tmp x) (some (.tmp lo)) (some (.tmp hi)) none, none, bf⟩).foot σ = ([.slot x, .slot lo, .slot hi] ++ fr.1, fr.2) := by
  have hf : (!(TK.slc 1).fits (.isl g 1 es)) = false := rfl
  simp only [VOper.prog, opProg, gOptInt, gInt, gOpd, Prog.foot, hx, hlo, hhi, lenV, hf, Bool.false_eq_true, if_false]
  rw [if_pos h]
  simp only [subV, hp]
  rfl
theorem vsl {d : Option Nat} {x lo hi g bf : Nat} {es : List V} {k k' : IntKind} {a b : Int} (hx : σ.slot x = .isl g 1 es) (hlo : σ.slot lo = .int k a) (hhi : σ.slot hi = .int k' b) (h : 0 ≤ a ∧ a ≤ b ∧ b ≤ es.length) (hp : (putO d (.isl 0 1 ((es.drop a.toNat).take (b.toNat - a.toNat))) .ret).run σ = some τ) :
    (VOper.prog cal base ⟨d, .slice (.slc 1) (.tmp x) (some (.tmp lo)) (some (.tmp hi)) none, none, bf⟩).run σ = some τ := by
  have hf : (!(TK.slc 1).fits (.isl g 1 es)) = false := rfl
  simp only [VOper.prog, opProg, gOptInt, gInt, gOpd, Prog.run, hx, hlo, hhi, lenV, hf, Bool.false_eq_true, if_false]
  rw [if_pos h]
  simp only [subV]
  exact hp
end
theorem byN_sub (l : List Nat) (a n : Nat) : List.take n (List.drop a (byN l)) = byN ((l.drop a).take n) := by simp [byN, List.map_take, List.map_drop]
theorem open34 (G : VProg) (hG : G 34 = some (.code S11.v34)) (h52 : H52 G) (h49 : H49 G) (h53 : H53 G) (l : List Nat) (k N used : Nat) (hl : l.length < 2 ^ 40) (hx : ∀ x ∈ l, x < 256)
    (h0 : l[0]? = some 167) (h1 : l[1]? = some 1) (h2 : l[2]? = some k) (hdec : dec 65536 0 0 (l.drop 3) = ((N : Int), (used : Int))) (hu : 0 < used) (he : 3 + used + N + 4 ≤ l.length)
    (h4 : ∀ i, i < 4 → l[3 + used + N + i]? = some (crc (l.take (3 + used + N)) / 2 ^ (8 * i) % 256)) (m : Nat) (hm : l.length + 40 ≤ m) :
    call G m 34 [.isl 0 1 (byN l)] [] = some (.tup [.agg [.int .u8 k, .xsl 0 1 (byN ((l.drop (3 + used)).take N))], .int .i64 (3 + used + N + 4 : Nat), .int .i64 0], []) := by
  obtain ⟨m, rfl⟩ : ∃ k, m = k + 1 := ⟨m - 1, by omega⟩
  have g0 : (byN l)[(0 : Int).toNat]? = some (.int .u8 167) := by simp [byN, h0]
  have g1 : (byN l)[(1 : Int).toNat]? = some (.int .u8 1) := by simp [byN, h1]
  have g2 : (byN l)[(2 : Int).toNat]? = some (.int .u8 k) := by simp [byN, h2]
  have c3 : decide (((byN l).length : Int) < 3) = false := by rw [byN_len]; simp; omega
  have hnum := h52 (l.drop 3) 65536 m (by simp; omega) (fun x h => hx x (List.mem_of_mem_drop h)) (by decide) (by omega)
  rw [hdec] at hnum
  dsimp only at hnum
  have cu : decide ((used : Int) < 0) = false := by simp
  have cz : ((used : Int) == 0) = false := by simp; omega
  have a1 : IntKind.i64.wrap (3 + (used : Int)) = ((3 + used : Nat) : Int) := wrap_i64 (3 + used) (by omega)
  have a2 : IntKind.i64.wrap (N : Int) = (N : Int) := wrap_i64 N (by omega)
  have a3 : IntKind.i64.wrap (((3 + used : Nat) : Int) + (N : Int)) = ((3 + used + N : Nat) : Int) := wrap_i64 (3 + used + N) (by omega)
  have ce : decide (((byN l).length : Int) < ((3 + used + N : Nat) : Int)) = false := by rw [byN_len]; simp; omega
  have hsum := h49 (l.take (3 + used + N)) m (by simp; omega) (fun x h => hx x (List.mem_of_mem_take h)) (by simp; omega)
  have a4 : IntKind.i64.wrap (((3 + used + N : Nat) : Int) + 4) = ((3 + used + N + 4 : Nat) : Int) := wrap_i64 (3 + used + N + 4) (by omega)
  have e1 : List.take ((byN l).length - 3) (List.drop 3 (byN l)) = byN (l.drop 3) := by rw [byN_sub, byN_len, List.take_of_length_le (by simp)]
  have e2 : List.take (3 + used + N) (byN l) = byN (l.take (3 + used + N)) := by simp [byN, List.map_take]
  have e3 : List.take (3 + used + N - (3 + used)) (List.drop (3 + used) (byN l)) = byN ((l.drop (3 + used)).take N) := by rw [byN_sub, Nat.add_sub_cancel_left]
  apply call_code (o := .ret) hG ⟨rfl, by decide⟩
  · change step (call G m) (itersOf G) (exec G m) 0 S11.b34 _ = _
    (try simp only [Vq.start, List.length_cons, List.length_nil, List.map_cons, List.map_nil, List.cons_append, List.nil_append, List.replicate_succ, List.replicate_zero, Nat.reduceAdd, Nat.reduceSub, S11.v34])
    unfold S11.b34
    (with_reducible apply Vq.vseq)
    · repeat' (((first
      | (with_reducible exact Vq.runOps_nil)
      | ((with_reducible apply Vq.runOps_cons); (first | exact rfl))
      | ((with_reducible first | apply Vq.vret | apply Vq.vskip | apply Vq.vexit | apply Vq.vab0 | apply Vq.vab1 | apply Vq.vabr); exact rfl)
      | ((with_reducible apply Vq.vregion); case hr => exact rfl)
      | (with_reducible first | apply Vq.vseq | apply Vq.vblock)
      | ((with_reducible apply Vq.vcond); exact rfl; dsimp only [Vq.pickC])
      | ((with_reducible apply Vq.vabx); (· decide); exact rfl) | dsimp only [Vq.afterSeq]); (try simp only [z1, z2, z3, z4, z5, z6, z7, z8, z9, z10, z11, z12, z13, z14, z15, z16, z17, z18, V.withLeaves, V.borrow, freeze1, borrows, borrow1, V.leaves, V.nextg, Nat.reduceAdd, Nat.reduceSub, layTup, obj1, splice, Bool.false_eq_true, if_true, if_false, Bool.not_true, Bool.not_false])))
    dsimp only [afterSeq]
    (with_reducible apply Vq.vseq)
    · (with_reducible apply Vq.vseq)
      · repeat' (((first
      | (with_reducible exact Vq.runOps_nil)
      | ((with_reducible apply Vq.runOps_cons); (first | exact rfl))
      | ((with_reducible first | apply Vq.vret | apply Vq.vskip | apply Vq.vexit | apply Vq.vab0 | apply Vq.vab1 | apply Vq.vabr); exact rfl)
      | ((with_reducible apply Vq.vregion); case hr => exact rfl)
      | (with_reducible first | apply Vq.vseq | apply Vq.vblock)
      | ((with_reducible apply Vq.vcond); exact rfl; dsimp only [Vq.pickC])
      | ((with_reducible apply Vq.vabx); (· decide); exact rfl) | dsimp only [Vq.afterSeq]); (try simp only [z1, z2, z3, z4, z5, z6, z7, z8, z9, z10, z11, z12, z13, z14, z15, z16, z17, z18, V.withLeaves, V.borrow, freeze1, borrows, borrow1, V.leaves, V.nextg, Nat.reduceAdd, Nat.reduceSub, layTup, obj1, splice, Bool.false_eq_true, if_true, if_false, Bool.not_true, Bool.not_false])))
      dsimp only [afterSeq]
      (with_reducible apply vblock)
      · exact loop34 G l g0 g1 (by omega) m (by omega) _ (by kernel_rfl)
      · apply vabkx (τ := { slots := (.isl 0 1 (byN l) :: .gone 0 :: .ptr (.obj 0 0) :: .gone 0 :: .gone 0 :: .gone 0 :: .gone 0 :: .gone 0 :: .gone 0 :: .gone 0 :: .gone 0 :: .gone 0 :: .gone 0 :: .gone 0 :: .gone 0 :: .gone 0 :: .gone 0 :: .gone 0 :: .gone 0 :: .gone 0 :: .gone 0 :: .gone 0 :: .gone 0 :: .gone 0 :: .gone 0 :: .gone 0 :: .gone 0 :: .gone 0 :: .gone 0 :: .gone 0 :: .gone 0 :: .gone 0 :: .gone 0 :: .gone 0 :: .gone 0 :: .gone 0 :: .gone 0 :: .gone 0 :: .gone 0 :: .gone 0 :: .gone 0 :: .gone 0 :: .gone 0 :: .gone 0 :: .gone 0 :: .gone 0 :: .gone 0 :: .gone 0 :: .gone 0 :: .gone 0 :: .gone 0 :: .gone 0 :: .gone 0 :: .gone 0 :: .gone 0 :: .gone 0 :: .gone 0 :: .gone 0 :: .gone 0 :: .gone 0 :: .gone 0 :: .gone 0 :: .gone 0 :: .gone 0 :: .gone 0 :: .gone 0 :: .gone 0 :: .gone 0 :: .gone 0 :: .gone 0 :: .gone 0 :: .gone 0 :: .gone 0 :: .gone 0 :: .gone 0 :: .gone 0 :: .gone 0 :: .gone 0 :: .gone 0 :: .gone 0 :: .gone 0 :: .gone 0 :: .gone 0 :: .gone 0 :: .gone 0 :: .gone 0 :: .gone 0 :: .gone 0 :: .gone 0 :: .gone 0 :: .gone 0 :: .gone 0 :: .gone 0 :: .gone 0 :: .gone 0 :: .gone 0 :: .gone 0 :: .gone 0 :: .gone 0 :: .gone 0 :: []), objs := [some o34] }) (by kernel_rfl)
        exact rfl
    dsimp only [afterSeq]
    (with_reducible apply Vq.vseq)
    · repeat' (((first
      | (with_reducible exact Vq.runOps_nil)
      | ((with_reducible apply Vq.runOps_cons); (first | exact rfl))
      | ((with_reducible first | apply Vq.vret | apply Vq.vskip | apply Vq.vexit | apply Vq.vab0 | apply Vq.vab1 | apply Vq.vabr); exact rfl)
      | ((with_reducible apply Vq.vregion); case hr => exact rfl)
      | (with_reducible first | apply Vq.vseq | apply Vq.vblock)
      | ((with_reducible apply Vq.vcond); exact rfl; dsimp only [Vq.pickC])
      | ((with_reducible apply Vq.vabx); (· decide); exact rfl) | dsimp only [Vq.afterSeq]); (try simp only [z1, z2, z3, z4, z5, z6, z7, z8, z9, z10, z11, z12, z13, z14, z15, z16, z17, z18, V.withLeaves, V.borrow, freeze1, borrows, borrow1, V.leaves, V.nextg, Nat.reduceAdd, Nat.reduceSub, layTup, obj1, splice, Bool.false_eq_true, if_true, if_false, Bool.not_true, Bool.not_false, c3])))
    dsimp only [afterSeq]
    (with_reducible apply Vq.vseq)
    · (with_reducible apply Vq.vregion); case hr => exact rfl
      ((with_reducible apply Vq.runOps_cons); exact rfl; (try simp only [z1, z2, z3, z4, z5, z6, z7, z8, z9, z10, z11, z12, z13, z14, z15, z16, z17, z18, V.withLeaves, V.borrow, freeze1, borrows, borrow1, V.leaves, V.nextg, Nat.reduceAdd, Nat.reduceSub, layTup, obj1, splice, Bool.false_eq_true, if_true, if_false, Bool.not_true, Bool.not_false]))
      (with_reducible apply Vq.runOps_cons)
      · apply run_asks
        · rw [byN_len]; simp; omega
        exact rfl
      (try simp only [z1, z2, z3, z4, z5, z6, z7, z8, z9, z10, z11, z12, z13, z14, z15, z16, z17, z18, V.withLeaves, V.borrow, freeze1, borrows, borrow1, V.leaves, V.nextg, Nat.reduceAdd, Nat.reduceSub, layTup, obj1, splice, Bool.false_eq_true, if_true, if_false, Bool.not_true, Bool.not_false, Int.toNat_natCast, show Int.toNat 3 = 3 from rfl, e1])
      repeat' (((first
      | (with_reducible exact Vq.runOps_nil)
      | ((with_reducible apply Vq.runOps_cons); (first | exact rfl | (apply Vq.vcallA; exact rfl; exact fun _ => rfl; exact rfl; (first | exact hnum); (first | exact rfl | (simp [Vq.V.apart, Vq.V.leaves, Vq.V.noslice]; done) | (simp [Vq.V.apart, Vq.V.leaves, Vq.V.noslice]; assumption)); exact rfl)))
      | ((with_reducible first | apply Vq.vret | apply Vq.vskip | apply Vq.vexit | apply Vq.vab0 | apply Vq.vab1 | apply Vq.vabr); exact rfl)
      | ((with_reducible apply Vq.vregion); case hr => exact rfl)
      | (with_reducible first | apply Vq.vseq | apply Vq.vblock)
      | ((with_reducible apply Vq.vcond); exact rfl; dsimp only [Vq.pickC])
      | ((with_reducible apply Vq.vabx); (· decide); exact rfl) | dsimp only [Vq.afterSeq]); (try simp only [z1, z2, z3, z4, z5, z6, z7, z8, z9, z10, z11, z12, z13, z14, z15, z16, z17, z18, V.withLeaves, V.borrow, freeze1, borrows, borrow1, V.leaves, V.nextg, Nat.reduceAdd, Nat.reduceSub, layTup, obj1, splice, Bool.false_eq_true, if_true, if_false, Bool.not_true, Bool.not_false])))
    dsimp only [afterSeq]
    (with_reducible apply Vq.vseq)
    · repeat' (((first
      | (with_reducible exact Vq.runOps_nil)
      | ((with_reducible apply Vq.runOps_cons); (first | exact rfl))
      | ((with_reducible first | apply Vq.vret | apply Vq.vskip | apply Vq.vexit | apply Vq.vab0 | apply Vq.vab1 | apply Vq.vabr); exact rfl)
      | ((with_reducible apply Vq.vregion); case hr => exact rfl)
      | (with_reducible first | apply Vq.vseq | apply Vq.vblock)
      | ((with_reducible apply Vq.vcond); exact rfl; dsimp only [Vq.pickC])
      | ((with_reducible apply Vq.vabx); (· decide); exact rfl) | dsimp only [Vq.afterSeq]); (try simp only [z1, z2, z3, z4, z5, z6, z7, z8, z9, z10, z11, z12, z13, z14, z15, z16, z17, z18, V.withLeaves, V.borrow, freeze1, borrows, borrow1, V.leaves, V.nextg, Nat.reduceAdd, Nat.reduceSub, layTup, obj1, splice, Bool.false_eq_true, if_true, if_false, Bool.not_true, Bool.not_false, cu, cz])))
    dsimp only [afterSeq]
    (with_reducible apply Vq.vseq)
    · repeat' (((first
      | (with_reducible exact Vq.runOps_nil)
      | ((with_reducible apply Vq.runOps_cons); (first | exact rfl))
      | ((with_reducible first | apply Vq.vret | apply Vq.vskip | apply Vq.vexit | apply Vq.vab0 | apply Vq.vab1 | apply Vq.vabr); exact rfl)
      | ((with_reducible apply Vq.vregion); case hr => exact rfl)
      | (with_reducible first | apply Vq.vseq | apply Vq.vblock)
      | ((with_reducible apply Vq.vcond); exact rfl; dsimp only [Vq.pickC])
      | ((with_reducible apply Vq.vabx); (· decide); exact rfl) | dsimp only [Vq.afterSeq]); (try simp only [z1, z2, z3, z4, z5, z6, z7, z8, z9, z10, z11, z12, z13, z14, z15, z16, z17, z18, V.withLeaves, V.borrow, freeze1, borrows, borrow1, V.leaves, V.nextg, Nat.reduceAdd, Nat.reduceSub, layTup, obj1, splice, Bool.false_eq_true, if_true, if_false, Bool.not_true, Bool.not_false, a1, a2, a3])))
    dsimp only [afterSeq]
    (with_reducible apply Vq.vseq)
    · repeat' (((first
      | (with_reducible exact Vq.runOps_nil)
      | ((with_reducible apply Vq.runOps_cons); (first | exact rfl))
      | ((with_reducible first | apply Vq.vret | apply Vq.vskip | apply Vq.vexit | apply Vq.vab0 | apply Vq.vab1 | apply Vq.vabr); exact rfl)
      | ((with_reducible apply Vq.vregion); case hr => exact rfl)
      | (with_reducible first | apply Vq.vseq | apply Vq.vblock)
      | ((with_reducible apply Vq.vcond); exact rfl; dsimp only [Vq.pickC])
      | ((with_reducible apply Vq.vabx); (· decide); exact rfl) | dsimp only [Vq.afterSeq]); (try simp only [z1, z2, z3, z4, z5, z6, z7, z8, z9, z10, z11, z12, z13, z14, z15, z16, z17, z18, V.withLeaves, V.borrow, freeze1, borrows, borrow1, V.leaves, V.nextg, Nat.reduceAdd, Nat.reduceSub, layTup, obj1, splice, Bool.false_eq_true, if_true, if_false, Bool.not_true, Bool.not_false, ce])))
    dsimp only [afterSeq]
    (with_reducible apply Vq.vseq)
    · (with_reducible apply Vq.vregion); case hr => exact rfl
      ((with_reducible apply Vq.runOps_cons); exact rfl; (try simp only [z1, z2, z3, z4, z5, z6, z7, z8, z9, z10, z11, z12, z13, z14, z15, z16, z17, z18, V.withLeaves, V.borrow, freeze1, borrows, borrow1, V.leaves, V.nextg, Nat.reduceAdd, Nat.reduceSub, layTup, obj1, splice, Bool.false_eq_true, if_true, if_false, Bool.not_true, Bool.not_false]); (with_reducible apply Vq.runOps_cons); exact rfl; (try simp only [z1, z2, z3, z4, z5, z6, z7, z8, z9, z10, z11, z12, z13, z14, z15, z16, z17, z18, V.withLeaves, V.borrow, freeze1, borrows, borrow1, V.leaves, V.nextg, Nat.reduceAdd, Nat.reduceSub, layTup, obj1, splice, Bool.false_eq_true, if_true, if_false, Bool.not_true, Bool.not_false]))
      (with_reducible apply Vq.runOps_cons)
      · apply run_asks
        · rw [byN_len]; simp; omega
        exact rfl
      (try simp only [z1, z2, z3, z4, z5, z6, z7, z8, z9, z10, z11, z12, z13, z14, z15, z16, z17, z18, V.withLeaves, V.borrow, freeze1, borrows, borrow1, V.leaves, V.nextg, Nat.reduceAdd, Nat.reduceSub, layTup, obj1, splice, Bool.false_eq_true, if_true, if_false, Bool.not_true, Bool.not_false, Int.toNat_natCast, Int.toNat_zero, Nat.sub_zero, List.drop_zero, e2])
      repeat' (((first
      | (with_reducible exact Vq.runOps_nil)
      | ((with_reducible apply Vq.runOps_cons); (first | exact rfl | (apply Vq.vcallA; exact rfl; exact fun _ => rfl; exact rfl; (first | exact hsum); (first | exact rfl | (simp [Vq.V.apart, Vq.V.leaves, Vq.V.noslice]; done) | (simp [Vq.V.apart, Vq.V.leaves, Vq.V.noslice]; assumption)); exact rfl)))
      | ((with_reducible first | apply Vq.vret | apply Vq.vskip | apply Vq.vexit | apply Vq.vab0 | apply Vq.vab1 | apply Vq.vabr); exact rfl)
      | ((with_reducible apply Vq.vregion); case hr => exact rfl)
      | (with_reducible first | apply Vq.vseq | apply Vq.vblock)
      | ((with_reducible apply Vq.vcond); exact rfl; dsimp only [Vq.pickC])
      | ((with_reducible apply Vq.vabx); (· decide); exact rfl) | dsimp only [Vq.afterSeq]); (try simp only [z1, z2, z3, z4, z5, z6, z7, z8, z9, z10, z11, z12, z13, z14, z15, z16, z17, z18, V.withLeaves, V.borrow, freeze1, borrows, borrow1, V.leaves, V.nextg, Nat.reduceAdd, Nat.reduceSub, layTup, obj1, splice, Bool.false_eq_true, if_true, if_false, Bool.not_true, Bool.not_false])))
    dsimp only [afterSeq]
    (with_reducible apply Vq.vseq)
    · (with_reducible apply Vq.vseq)
      · repeat' (((first
      | (with_reducible exact Vq.runOps_nil)
      | ((with_reducible apply Vq.runOps_cons); (first | exact rfl))
      | ((with_reducible first | apply Vq.vret | apply Vq.vskip | apply Vq.vexit | apply Vq.vab0 | apply Vq.vab1 | apply Vq.vabr); exact rfl)
      | ((with_reducible apply Vq.vregion); case hr => exact rfl)
      | (with_reducible first | apply Vq.vseq | apply Vq.vblock)
      | ((with_reducible apply Vq.vcond); exact rfl; dsimp only [Vq.pickC])
      | ((with_reducible apply Vq.vabx); (· decide); exact rfl) | dsimp only [Vq.afterSeq]); (try simp only [z1, z2, z3, z4, z5, z6, z7, z8, z9, z10, z11, z12, z13, z14, z15, z16, z17, z18, V.withLeaves, V.borrow, freeze1, borrows, borrow1, V.leaves, V.nextg, Nat.reduceAdd, Nat.reduceSub, layTup, obj1, splice, Bool.false_eq_true, if_true, if_false, Bool.not_true, Bool.not_false])))
      dsimp only [afterSeq]
      (with_reducible apply vblock)
      · exact loopt G l used (3 + used + N) (crc (l.take (3 + used + N))) hl he h4 m (by omega) _ (by kernel_rfl)
      · apply vabkx (τ := { slots := (.isl 0 1 (byN l) :: .gone 0 :: .ptr (.obj 0 0) :: .gone 0 :: .gone 0 :: .gone 0 :: .gone 0 :: .gone 0 :: .int .i64 used :: .int .i64 (3 + used + N : Nat) :: .gone 0 :: .gone 0 :: .gone 0 :: .gone 0 :: .gone 0 :: .gone 0 :: .gone 0 :: .gone 0 :: .gone 0 :: .gone 0 :: .gone 0 :: .gone 0 :: .gone 0 :: .gone 0 :: .gone 0 :: .gone 0 :: .gone 0 :: .gone 0 :: .gone 0 :: .gone 0 :: .gone 0 :: .gone 0 :: .gone 0 :: .gone 0 :: .gone 0 :: .gone 0 :: .gone 0 :: .gone 0 :: .gone 0 :: .gone 0 :: .int .i64 used :: .gone 0 :: .gone 0 :: .gone 0 :: .gone 0 :: .gone 0 :: .gone 0 :: .gone 0 :: .gone 0 :: .gone 0 :: .gone 0 :: .gone 0 :: .gone 0 :: .gone 0 :: .gone 0 :: .gone 0 :: .gone 0 :: .gone 0 :: .gone 0 :: .gone 0 :: .gone 0 :: .gone 0 :: .gone 0 :: .gone 0 :: .gone 0 :: .gone 0 :: .gone 0 :: .gone 0 :: .gone 0 :: .gone 0 :: .gone 0 :: .gone 0 :: .gone 0 :: .gone 0 :: .gone 0 :: .gone 0 :: .gone 0 :: .gone 0 :: .gone 0 :: .gone 0 :: .gone 0 :: .gone 0 :: .gone 0 :: .gone 0 :: .gone 0 :: .gone 0 :: .gone 0 :: .gone 0 :: .gone 0 :: .gone 0 :: .gone 0 :: .gone 0 :: .gone 0 :: .gone 0 :: .gone 0 :: .gone 0 :: .gone 0 :: .gone 0 :: .gone 0 :: .gone 0 :: []), objs := [some o34] }) (by kernel_rfl)
        exact rfl
    dsimp only [afterSeq]
    (with_reducible apply Vq.vseq)
    · (with_reducible apply vdraw)
      case hr => exact rfl
      (apply Vq.runDraw_cons; exact rfl; kernel_rfl; exact rfl; (try simp only [z1, z2, z3, z4, z5, z6, z7, z8, z9, z10, z11, z12, z13, z14, z15, z16, z17, z18, V.withLeaves, V.borrow, freeze1, borrows, borrow1, V.leaves, V.nextg, Nat.reduceAdd, Nat.reduceSub, layTup, obj1, splice, Bool.false_eq_true, if_true, if_false, Bool.not_true, Bool.not_false]))
      apply runDraw_cons
      · apply vidxV_foot rfl (by decide) g2
        exact rfl
      · kernel_rfl
      · apply vidx rfl rfl (.inr rfl) (by decide) g2
        exact rfl
      (try simp only [z1, z2, z3, z4, z5, z6, z7, z8, z9, z10, z11, z12, z13, z14, z15, z16, z17, z18, V.withLeaves, V.borrow, freeze1, borrows, borrow1, V.leaves, V.nextg, Nat.reduceAdd, Nat.reduceSub, layTup, obj1, splice, Bool.false_eq_true, if_true, if_false, Bool.not_true, Bool.not_false])
      (apply Vq.runDraw_cons; exact rfl; kernel_rfl; exact rfl; (try simp only [z1, z2, z3, z4, z5, z6, z7, z8, z9, z10, z11, z12, z13, z14, z15, z16, z17, z18, V.withLeaves, V.borrow, freeze1, borrows, borrow1, V.leaves, V.nextg, Nat.reduceAdd, Nat.reduceSub, layTup, obj1, splice, Bool.false_eq_true, if_true, if_false, Bool.not_true, Bool.not_false]))
      (apply Vq.runDraw_cons; exact rfl; kernel_rfl; exact rfl; (try simp only [z1, z2, z3, z4, z5, z6, z7, z8, z9, z10, z11, z12, z13, z14, z15, z16, z17, z18, V.withLeaves, V.borrow, freeze1, borrows, borrow1, V.leaves, V.nextg, Nat.reduceAdd, Nat.reduceSub, layTup, obj1, splice, Bool.false_eq_true, if_true, if_false, Bool.not_true, Bool.not_false]))
      (apply Vq.runDraw_cons; exact rfl; kernel_rfl; exact rfl; (try simp only [z1, z2, z3, z4, z5, z6, z7, z8, z9, z10, z11, z12, z13, z14, z15, z16, z17, z18, V.withLeaves, V.borrow, freeze1, borrows, borrow1, V.leaves, V.nextg, Nat.reduceAdd, Nat.reduceSub, layTup, obj1, splice, Bool.false_eq_true, if_true, if_false, Bool.not_true, Bool.not_false]))
      (apply Vq.runDraw_cons; exact rfl; kernel_rfl; exact rfl; (try simp only [z1, z2, z3, z4, z5, z6, z7, z8, z9, z10, z11, z12, z13, z14, z15, z16, z17, z18, V.withLeaves, V.borrow, freeze1, borrows, borrow1, V.leaves, V.nextg, Nat.reduceAdd, Nat.reduceSub, layTup, obj1, splice, Bool.false_eq_true, if_true, if_false, Bool.not_true, Bool.not_false, a1]))
      (apply Vq.runDraw_cons; exact rfl; kernel_rfl; exact rfl; (try simp only [z1, z2, z3, z4, z5, z6, z7, z8, z9, z10, z11, z12, z13, z14, z15, z16, z17, z18, V.withLeaves, V.borrow, freeze1, borrows, borrow1, V.leaves, V.nextg, Nat.reduceAdd, Nat.reduceSub, layTup, obj1, splice, Bool.false_eq_true, if_true, if_false, Bool.not_true, Bool.not_false]))
      apply runDraw_cons
      · apply vsl_foot rfl rfl rfl (by rw [byN_len]; omega)
        exact rfl
      · kernel_rfl
      · apply vsl rfl rfl rfl (by rw [byN_len]; omega)
        exact rfl
      (try simp only [z1, z2, z3, z4, z5, z6, z7, z8, z9, z10, z11, z12, z13, z14, z15, z16, z17, z18, V.withLeaves, V.borrow, freeze1, borrows, borrow1, V.leaves, V.nextg, Nat.reduceAdd, Nat.reduceSub, layTup, obj1, splice, Bool.false_eq_true, if_true, if_false, Bool.not_true, Bool.not_false, Int.toNat_natCast, e3])
      apply runDraw_cons
      · apply vcallA_foot (rs := [.slot 95]) rfl (fun _ => rfl) rfl (h53 m _ (by rw [byN_len]; simp; omega)) (by simp [V.apart, V.leaves, V.noslice]; exact byN_noslice _)
        exact rfl
      · kernel_rfl
      · apply vcallA rfl (fun _ => rfl) rfl (h53 m _ (by rw [byN_len]; simp; omega)) (by simp [V.apart, V.leaves, V.noslice]; exact byN_noslice _)
        exact rfl
      (try simp only [z1, z2, z3, z4, z5, z6, z7, z8, z9, z10, z11, z12, z13, z14, z15, z16, z17, z18, V.withLeaves, V.borrow, freeze1, borrows, borrow1, V.leaves, V.nextg, Nat.reduceAdd, Nat.reduceSub, layTup, obj1, splice, Bool.false_eq_true, if_true, if_false, Bool.not_true, Bool.not_false])
      (apply Vq.runDraw_cons; exact rfl; kernel_rfl; exact rfl; (try simp only [z1, z2, z3, z4, z5, z6, z7, z8, z9, z10, z11, z12, z13, z14, z15, z16, z17, z18, V.withLeaves, V.borrow, freeze1, borrows, borrow1, V.leaves, V.nextg, Nat.reduceAdd, Nat.reduceSub, layTup, obj1, splice, Bool.false_eq_true, if_true, if_false, Bool.not_true, Bool.not_false]))
      (apply Vq.runDraw_cons; exact rfl; kernel_rfl; exact rfl; (try simp only [z1, z2, z3, z4, z5, z6, z7, z8, z9, z10, z11, z12, z13, z14, z15, z16, z17, z18, V.withLeaves, V.borrow, freeze1, borrows, borrow1, V.leaves, V.nextg, Nat.reduceAdd, Nat.reduceSub, layTup, obj1, splice, Bool.false_eq_true, if_true, if_false, Bool.not_true, Bool.not_false]))
      (apply Vq.runDraw_cons; exact rfl; kernel_rfl; exact rfl; (try simp only [z1, z2, z3, z4, z5, z6, z7, z8, z9, z10, z11, z12, z13, z14, z15, z16, z17, z18, V.withLeaves, V.borrow, freeze1, borrows, borrow1, V.leaves, V.nextg, Nat.reduceAdd, Nat.reduceSub, layTup, obj1, splice, Bool.false_eq_true, if_true, if_false, Bool.not_true, Bool.not_false, a4]))
      (apply Vq.runDraw_cons; exact rfl; kernel_rfl; exact rfl; (try simp only [z1, z2, z3, z4, z5, z6, z7, z8, z9, z10, z11, z12, z13, z14, z15, z16, z17, z18, V.withLeaves, V.borrow, freeze1, borrows, borrow1, V.leaves, V.nextg, Nat.reduceAdd, Nat.reduceSub, layTup, obj1, splice, Bool.false_eq_true, if_true, if_false, Bool.not_true, Bool.not_false]))
      (apply Vq.runDraw_cons; exact rfl; kernel_rfl; exact rfl; (try simp only [z1, z2, z3, z4, z5, z6, z7, z8, z9, z10, z11, z12, z13, z14, z15, z16, z17, z18, V.withLeaves, V.borrow, freeze1, borrows, borrow1, V.leaves, V.nextg, Nat.reduceAdd, Nat.reduceSub, layTup, obj1, splice, Bool.false_eq_true, if_true, if_false, Bool.not_true, Bool.not_false]))
      (apply Vq.runDraw_cons; exact rfl; kernel_rfl; exact rfl; (try simp only [z1, z2, z3, z4, z5, z6, z7, z8, z9, z10, z11, z12, z13, z14, z15, z16, z17, z18, V.withLeaves, V.borrow, freeze1, borrows, borrow1, V.leaves, V.nextg, Nat.reduceAdd, Nat.reduceSub, layTup, obj1, splice, Bool.false_eq_true, if_true, if_false, Bool.not_true, Bool.not_false]))
      exact runDraw_nil
    dsimp only [afterSeq]
    repeat' (((first
      | (with_reducible exact Vq.runOps_nil)
      | ((with_reducible apply Vq.runOps_cons); (first | exact rfl))
      | ((with_reducible first | apply Vq.vret | apply Vq.vskip | apply Vq.vexit | apply Vq.vab0 | apply Vq.vab1 | apply Vq.vabr); exact rfl)
      | ((with_reducible apply Vq.vregion); case hr => exact rfl)
      | (with_reducible first | apply Vq.vseq | apply Vq.vblock)
      | ((with_reducible apply Vq.vcond); exact rfl; dsimp only [Vq.pickC])
      | ((with_reducible apply Vq.vabx); (· decide); exact rfl) | dsimp only [Vq.afterSeq]); (try simp only [z1, z2, z3, z4, z5, z6, z7, z8, z9, z10, z11, z12, z13, z14, z15, z16, z17, z18, V.withLeaves, V.borrow, freeze1, borrows, borrow1, V.leaves, V.nextg, Nat.reduceAdd, Nat.reduceSub, layTup, obj1, splice, Bool.false_eq_true, if_true, if_false, Bool.not_true, Bool.not_false])))
  · exact .inr rfl
  · apply Vq.vfin
    · apply Vq.run_asks
      · simp
      apply Vq.run_asks
      · simp
      simp only [List.take_length, List.drop_zero]
      first | apply Vq.run_if trivial | apply Vq.run_if rfl
      unfold Vq.sHome
      simp only [Vq.Prog.run]
      apply Vq.run_asks
      · exact Nat.lt_succ_self 1
      exact rfl
      exact Vq.Prog.ret
    · exact rfl
    · exact rfl
    · decide
    · exact rfl
    · exact rfl
end S14
end Go.Vq

