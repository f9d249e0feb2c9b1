/- The V-level machine, run on values that are not known (no law of Go is stated here). -/
import Derived.Test.YtigbpkocmklbpaaF7
set_option linter.unusedVariables false
set_option linter.unusedSimpArgs false
set_option linter.unusedSectionVars false
namespace Go.Vq
/-! short names -/
theorem z1 (σ : St) (s : Nat) (v : V) : σ.setS s v = { σ with slots := σ.slots.set s v } := rfl
theorem z2 (σ : St) (s : Nat) : σ.slot s = σ.slots.getD s (.gone 0) := rfl
theorem z3 (σ : St) (o : Nat) (x : Option Obj) : σ.setO o x = { σ with objs := σ.objs.set o x } := rfl
theorem z4 (σ : St) (o : Nat) : σ.obj o = σ.objs.getD o none := rfl
section
variable {α : Type}
theorem z5 (a : α) (l : List α) (n : Nat) (x : α) : (a :: l).set (n + 1) x = a :: l.set n x := rfl
theorem z6 (a : α) (l : List α) (x : α) : (a :: l).set 0 x = x :: l := rfl
theorem z7 (a : α) (l : List α) (n : Nat) (d : α) : (a :: l).getD (n + 1) d = l.getD n d := rfl
theorem z8 (a : α) (l : List α) (d : α) : (a :: l).getD 0 d = a := rfl
theorem z9 (a : α) (l : List α) (d : α) : (a :: l).headD d = a := rfl
theorem z10 (a : α) (l : List α) : (a :: l).length = l.length + 1 := rfl
theorem z11 : ([] : List α).length = 0 := rfl
theorem z12 (a : α) (l : List α) (n : Nat) : (a :: l).take (n + 1) = a :: l.take n := rfl
theorem z13 (l : List α) : l.take 0 = [] := by cases l <;> rfl
theorem z14 (a : α) (l : List α) (n : Nat) : (a :: l).drop (n + 1) = l.drop n := rfl
theorem z15 (l : List α) : l.drop 0 = l := by cases l <;> rfl
theorem z16 (a : α) (l r : List α) : (a :: l) ++ r = a :: (l ++ r) := rfl
theorem z17 (l : List α) : [] ++ l = l := rfl
theorem z18 (l : List α) : l ++ [] = l := List.append_nil l
end
end Go.Vq

namespace Go.Vq
namespace S2
open Go
set_option maxRecDepth 1000000
/-- packhorse/packet.Number -/
def b35 : VCode :=
  .seq
    (.region [{ dst := (some 4), op := .assign (.val (.nilS 1)), guard := none, before := 0 }] false)
    (.seq
      (.region [{ dst := (some 8), op := .move (.tmp 0), guard := none, before := 0 },
        { dst := (some 9), op := .call true 53 0 [(.tmp 8)], guard := none, before := 1 },
        { dst := (some 5), op := .assign (.tmp 9), guard := none, before := 3 }] false)
      (.seq
        (.seq
          (.region [{ dst := (some 10), op := .move (.tmp 1), guard := none, before := 0 },
            { dst := (some 11), op := .len (.slc 1) (.tmp 10), guard := none, before := 1 },
            { dst := (some 12), op := .move (.val (.int .i64 0)), guard := none, before := 0 }] false)
          (.block 0 (some [5]) (.loop (some [1, 5, 10, 11, 12])
              (.seq
                (.region [{ dst := (some 13), op := .bin (.lss) (.tmp 12) (.tmp 11), guard := none, before := 0 }] false)
                (.seq
                  (.cond (.tmp 13)
                    (.skip)
                    (.exit 0))
                  (.seq
                    (.block 1 (some [1, 5, 10, 11, 12]) (.seq
                        (.region [{ dst := (some 14), op := .indexAddr none 1 (.tmp 10) (.tmp 12), guard := none, before := 0 },
                          { dst := (some 15), op := .load false 1 (.tmp 14), guard := none, before := 1 },
                          { dst := (some 7), op := .assign (.tmp 15), guard := none, before := 3 }] false)
                        (.seq
                          (.block 2 (some [1, 5, 7, 10, 11, 12, 14, 15]) (.loop (some [1, 5, 7, 10, 11, 12, 14, 15])
                              (.seq
                                (.seq
                                  (.region [{ dst := (some 16), op := .move (.tmp 7), guard := none, before := 0 },
                                    { dst := (some 17), op := .bin (.geq) (.tmp 16) (.val (.int .u64 128)), guard := none, before := 1 }] false)
                                  (.cond (.tmp 17)
                                    (.skip)
                                    (.exit 2)))
                                (.seq
                                  (.block 3 none (.region [{ dst := (some 20), op := .move (.tmp 5), guard := none, before := 0 },
                                      { dst := (some 21), op := .move (.tmp 7), guard := none, before := 0 },
                                      { dst := (some 22), op := .conv (.int (.u8)) (.tmp 21), guard := none, before := 2 },
                                      { dst := (some 23), op := .bin (.or) (.tmp 22) (.val (.int .u8 128)), guard := none, before := 6 },
                                      { dst := (some 24), op := .buildSlice 1 [(.int .u8 0)] [(0, (.tmp 23))], guard := none, before := 14 },
                                      { dst := (some 25), op := .append 1 1 (.tmp 20) (.tmp 24), guard := none, before := 31 },
                                      { dst := (some 5), op := .assign (.tmp 25), guard := none, before := 63 }] false))
                                  (.region [{ dst := (some 18), op := .move (.tmp 7), guard := none, before := 0 },
                                    { dst := (some 19), op := .bin (.shr) (.tmp 18) (.val (.int .u64 7)), guard := none, before := 1 },
                                    { dst := (some 7), op := .assign (.tmp 19), guard := none, before := 3 }] false)))))
                          (.region [{ dst := (some 26), op := .move (.tmp 5), guard := none, before := 0 },
                            { dst := (some 27), op := .move (.tmp 7), guard := none, before := 0 },
                            { dst := (some 28), op := .conv (.int (.u8)) (.tmp 27), guard := none, before := 2 },
                            { dst := (some 29), op := .buildSlice 1 [(.int .u8 0)] [(0, (.tmp 28))], guard := none, before := 6 },
                            { dst := (some 30), op := .append 1 1 (.tmp 26) (.tmp 29), guard := none, before := 15 },
                            { dst := (some 5), op := .assign (.tmp 30), guard := none, before := 31 }] false))))
                    (.region [{ dst := (some 31), op := .bin (.add) (.tmp 12) (.val (.int .i64 1)), guard := none, before := 0 },
                      { dst := (some 12), op := .move (.tmp 31), guard := none, before := 1 }] false)))))))
        (.seq
          (.region [{ dst := (some 32), op := .move (.tmp 5), guard := none, before := 0 },
            { dst := (some 4), op := .assign (.tmp 32), guard := none, before := 1 }] false)
          (.ret))))
def v35 : VFunc := { nparams := 2, ntmps := 33, nsites := 0, results := [.tmp 4], body := b35 }
/-- packhorse/packhorselaw06.PacketShort -/
def b10 : VCode :=
  .seq
    (.region [{ dst := (some 4), op := .assign (.val (.bool false)), guard := none, before := 0 }] false)
    (.seq
      (.seq
        (.region [{ dst := (some 10), op := .call true 31 0 [], guard := none, before := 0 },
          { dst := (some 11), op := .un (.not) (.tmp 10), guard := none, before := 1 }] false)
        (.cond (.tmp 11)
          (.seq
            (.region [{ dst := (some 4), op := .assign (.val (.bool false)), guard := none, before := 0 }] false)
            (.ret))
          (.skip)))
      (.seq
        (.region [{ dst := (some 12), op := .move (.tmp 0), guard := none, before := 0 },
          { dst := (some 13), op := .buildSlice 1 [(.int .u64 0)] [(0, (.tmp 12))], guard := none, before := 1 },
          { dst := (some 14), op := .call true 35 0 [(.val (.nilS 1)), (.tmp 13)], guard := none, before := 3 },
          { dst := (some 15), op := .conv (.text) (.tmp 14), guard := none, before := 7 },
          { dst := (some 16), op := .move (.tmp 1), guard := none, before := 0 },
          { dst := (some 17), op := .buildSlice 1 [(.int .u64 0)] [(0, (.tmp 16))], guard := none, before := 16 },
          { dst := (some 18), op := .call true 35 0 [(.val (.nilS 1)), (.tmp 17)], guard := none, before := 55 },
          { dst := (some 19), op := .conv (.text) (.tmp 18), guard := none, before := 119 },
          { dst := (some 5), op := .assign (.tmp 15), guard := none, before := 127 },
          { dst := (some 6), op := .assign (.tmp 19), guard := none, before := 511 }] true)
        (.seq
          (.region [{ dst := (some 7), op := .assign (.val (.int .i64 1)), guard := none, before := 0 }] false)
          (.seq
            (.seq
              (.region [{ dst := (some 20), op := .move (.tmp 0), guard := none, before := 0 },
                { dst := (some 8), op := .assign (.tmp 20), guard := none, before := 1 }] false)
              (.block 0 (some [0, 1, 5, 6, 7]) (.loop (some [0, 1, 5, 6, 7, 8, 20])
                  (.seq
                    (.seq
                      (.region [{ dst := (some 21), op := .move (.tmp 8), guard := none, before := 0 },
                        { dst := (some 22), op := .bin (.geq) (.tmp 21) (.val (.int .u64 128)), guard := none, before := 1 }] false)
                      (.cond (.tmp 22)
                        (.skip)
                        (.exit 0)))
                    (.seq
                      (.block 1 none (.region [{ dst := (some 25), op := .move (.tmp 7), guard := none, before := 0 },
                          { dst := (some 26), op := .bin (.add) (.tmp 25) (.val (.int .i64 1)), guard := none, before := 1 },
                          { dst := (some 7), op := .assign (.tmp 26), guard := none, before := 3 }] false))
                      (.region [{ dst := (some 23), op := .move (.tmp 8), guard := none, before := 0 },
                        { dst := (some 24), op := .bin (.quo) (.tmp 23) (.val (.int .u64 128)), guard := none, before := 1 },
                        { dst := (some 8), op := .assign (.tmp 24), guard := none, before := 3 }] false))))))
            (.seq
              (.region [{ dst := (some 27), op := .move (.tmp 5), guard := none, before := 0 },
                { dst := (some 28), op := .len (.str) (.tmp 27), guard := none, before := 1 },
                { dst := (some 29), op := .move (.tmp 6), guard := none, before := 0 },
                { dst := (some 30), op := .len (.str) (.tmp 29), guard := none, before := 4 },
                { dst := (some 31), op := .bin (.leq) (.tmp 28) (.tmp 30), guard := none, before := 15 },
                { dst := (some 32), op := .move (.tmp 31), guard := none, before := 31 },
                { dst := (some 33), op := .move (.tmp 6), guard := (some (32, true)), before := 63 },
                { dst := (some 34), op := .move (.tmp 5), guard := (some (32, true)), before := 63 },
                { dst := (some 35), op := .len (.str) (.tmp 34), guard := (some (32, true)), before := 191 },
                { dst := (some 36), op := .slice (.str) (.tmp 33) none (some (.tmp 35)) none, guard := (some (32, true)), before := 511 },
                { dst := (some 37), op := .move (.tmp 5), guard := (some (32, true)), before := 63 },
                { dst := (some 38), op := .eq false (.num) (.tmp 36) (.tmp 37), guard := (some (32, true)), before := 2047 },
                { dst := (some 39), op := .pick (.tmp 32) (.tmp 38) (.val (.bool false)), guard := none, before := 4095 },
                { dst := (some 9), op := .assign (.tmp 39), guard := none, before := 8191 }] false)
              (.seq
                (.region [{ dst := (some 40), op := .move (.tmp 5), guard := none, before := 0 },
                  { dst := (some 41), op := .len (.str) (.tmp 40), guard := none, before := 1 },
                  { dst := (some 42), op := .move (.tmp 7), guard := none, before := 0 },
                  { dst := (some 43), op := .eq false (.num) (.tmp 41) (.tmp 42), guard := none, before := 7 },
                  { dst := (some 44), op := .move (.tmp 43), guard := none, before := 15 },
                  { dst := (some 45), op := .move (.tmp 9), guard := (some (44, true)), before := 31 },
                  { dst := (some 46), op := .move (.tmp 0), guard := (some (44, true)), before := 31 },
                  { dst := (some 47), op := .move (.tmp 1), guard := (some (44, true)), before := 31 },
                  { dst := (some 48), op := .eq false (.num) (.tmp 46) (.tmp 47), guard := (some (44, true)), before := 223 },
                  { dst := (some 49), op := .eq false (.bool) (.tmp 45) (.tmp 48), guard := (some (44, true)), before := 511 },
                  { dst := (some 50), op := .pick (.tmp 44) (.tmp 49) (.val (.bool false)), guard := none, before := 1023 },
                  { dst := (some 4), op := .assign (.tmp 50), guard := none, before := 2047 }] false)
                (.ret)))))))
def v10 : VFunc := { nparams := 2, ntmps := 51, nsites := 0, results := [.tmp 4], body := b10 }

variable (cal : Callee) (its : FuncId → Iter) (again : Nat → VCode → St → Option (Out × St))
def in35 : VCode := match b35 with | .seq _ (.seq _ (.seq (.seq _ (.block _ _ (.loop _ (.seq _ (.seq _ (.seq (.block _ _ (.seq _ (.seq (.block _ _ (.loop _ b)) _))) _)))))) _)) => b | _ => .skip
theorem in35_eq : in35 = (.seq (.seq (.region [{ dst := (some 16), op := .move (.tmp 7), guard := none, before := 0 }, { dst := (some 17), op := .bin (.geq) (.tmp 16) (.val (.int .u64 128)), guard := none, before := 1 }] false) (.cond (.tmp 17) (.skip) (.exit 2))) (.seq (.block 3 none (.region [{ dst := (some 20), op := .move (.tmp 5), guard := none, before := 0 }, { dst := (some 21), op := .move (.tmp 7), guard := none, before := 0 }, { dst := (some 22), op := .conv (.int (.u8)) (.tmp 21), guard := none, before := 2 }, { dst := (some 23), op := .bin (.or) (.tmp 22) (.val (.int .u8 128)), guard := none, before := 6 }, { dst := (some 24), op := .buildSlice 1 [(.int .u8 0)] [(0, (.tmp 23))], guard := none, before := 14 }, { dst := (some 25), op := .append 1 1 (.tmp 20) (.tmp 24), guard := none, before := 31 }, { dst := (some 5), op := .assign (.tmp 25), guard := none, before := 63 }] false)) (.region [{ dst := (some 18), op := .move (.tmp 7), guard := none, before := 0 }, { dst := (some 19), op := .bin (.shr) (.tmp 18) (.val (.int .u64 7)), guard := none, before := 1 }, { dst := (some 7), op := .assign (.tmp 19), guard := none, before := 3 }] false))) := rfl
def st35 (l : List V) (n0 : Int) (idx : Int) (out : List V) (n : Int) : St :=
  { slots := (.gone 0 :: .isl 0 1 l :: .gone 0 :: .gone 0 :: .gone 0 :: .xsl 0 1 out :: .gone 0 :: .int .u64 n :: .gone 0 :: .gone 0 :: .isl 0 1 l :: .int .i64 l.length :: .int .i64 idx :: .gone 0 :: .iptr [.int .u64 n0] :: .int .u64 n0 :: .gone 0 :: .gone 0 :: .gone 0 :: .gone 0 :: .gone 0 :: .gone 0 :: .gone 0 :: .gone 0 :: .gone 0 :: .gone 0 :: .gone 0 :: .gone 0 :: .gone 0 :: .gone 0 :: .gone 0 :: .gone 0 :: .gone 0 :: []), objs := [] }
theorem round35 (l : List V) (n0 idx : Int) (out : List V) (n : Int) (h : decide (n ≥ 128) = true) (hb : out.length + 1 ≤ 140737488355328) :
    ∃ s, step cal its again 0 in35 (st35 l n0 idx out n) = some (.normal, s) ∧ rebase? (some [1, 5, 7, 10, 11, 12, 14, 15]) 0 s = st35 l n0 idx (out ++ [.int .u8 (IntKind.u8.wrap ((BitVec.ofInt 8 (IntKind.u8.wrap n)) ||| (BitVec.ofInt 8 128)).toNat)]) (n.fdiv (2 ^ 7)) := by
  rw [in35_eq]
  unfold st35
  apply vround
  · repeat' (((first
      | (with_reducible exact Vq.runOps_nil)
      | ((with_reducible apply Vq.runOps_cons); (first | exact rfl | (apply Vq.run_asks; (· simp); (try simp only [List.take_length, List.drop_zero]); apply Vq.run_if trivial; unfold Vq.sHome; simp only [Vq.Prog.run]; apply Vq.run_asks; (· exact Nat.zero_lt_one); apply Vq.run_asks; (· exact ⟨trivial, by (simp; omega)⟩); exact rfl) | (apply Vq.run_asks; (· exact rfl); apply Vq.run_asks; (· exact ⟨rfl, by (simp; omega)⟩); exact rfl) | (apply Vq.run_asks; (· exact ⟨rfl, by (simp; omega)⟩); exact rfl)))
      | ((with_reducible first | apply Vq.vret | apply Vq.vskip | apply Vq.vexit | apply Vq.vab0 | apply Vq.vab1 | apply Vq.vabr); exact rfl)
      | ((with_reducible apply Vq.vregion); case hr => exact rfl)
      | (with_reducible first | apply Vq.vseq | apply Vq.vblock)
      | ((with_reducible apply Vq.vcond); exact rfl; dsimp only [Vq.pickC])
      | ((with_reducible apply Vq.vabx); (· decide); exact rfl) | dsimp only [Vq.afterSeq]); (try simp only [z1, z2, z3, z4, z5, z6, z7, z8, z9, z10, z11, z12, z13, z14, z15, z16, z17, z18, V.withLeaves, V.borrow, freeze1, borrows, borrow1, V.leaves, V.nextg, Nat.reduceAdd, Nat.reduceSub, layTup, obj1, splice, Bool.false_eq_true, if_true, if_false, Bool.not_true, Bool.not_false, h, List.take_length])))
  · skip
    exact rfl
def orb (n : Int) : V := .int .u8 (IntKind.u8.wrap ((BitVec.ofInt 8 (IntKind.u8.wrap n)) ||| (BitVec.ofInt 8 128)).toNat)
def pre : Nat → Int → List V
  | 0, _ => []
  | k + 1, n => if n ≥ 128 then orb n :: pre k (n.fdiv (2 ^ 7)) else []
def lst : Nat → Int → Int
  | 0, n => n
  | k + 1, n => if n ≥ 128 then lst k (n.fdiv (2 ^ 7)) else n
def ex35 (l : List V) (n0 : Int) (idx : Int) (out : List V) (n : Int) : St :=
  { slots := (.gone 0 :: .isl 0 1 l :: .gone 0 :: .gone 0 :: .gone 0 :: .xsl 0 1 out :: .gone 0 :: .int .u64 n :: .gone 0 :: .gone 0 :: .isl 0 1 l :: .int .i64 l.length :: .int .i64 idx :: .gone 0 :: .iptr [.int .u64 n0] :: .int .u64 n0 :: .int .u64 n :: .bool false :: .gone 0 :: .gone 0 :: .gone 0 :: .gone 0 :: .gone 0 :: .gone 0 :: .gone 0 :: .gone 0 :: .gone 0 :: .gone 0 :: .gone 0 :: .gone 0 :: .gone 0 :: .gone 0 :: .gone 0 :: []), objs := [] }
theorem out35 (l : List V) (n0 idx : Int) (out : List V) (n : Int) (h : decide (n ≥ 128) = false) :
    step cal its again 0 in35 (st35 l n0 idx out n) = some (.exit 2, ex35 l n0 idx out n) := by
  rw [in35_eq]
  unfold st35 ex35
  repeat' (((first
      | (with_reducible exact Vq.runOps_nil)
      | ((with_reducible apply Vq.runOps_cons); (first | exact rfl))
      | ((with_reducible first | apply Vq.vret | apply Vq.vskip | apply Vq.vexit | apply Vq.vab0 | apply Vq.vab1 | apply Vq.vabr); exact rfl)
      | ((with_reducible apply Vq.vregion); case hr => exact rfl)
      | (with_reducible first | apply Vq.vseq | apply Vq.vblock)
      | ((with_reducible apply Vq.vcond); exact rfl; dsimp only [Vq.pickC])
      | ((with_reducible apply Vq.vabx); (· decide); exact rfl) | dsimp only [Vq.afterSeq]); (try simp only [z1, z2, z3, z4, z5, z6, z7, z8, z9, z10, z11, z12, z13, z14, z15, z16, z17, z18, V.withLeaves, V.borrow, freeze1, borrows, borrow1, V.leaves, V.nextg, Nat.reduceAdd, Nat.reduceSub, layTup, obj1, splice, Bool.false_eq_true, if_true, if_false, Bool.not_true, Bool.not_false, h])))
theorem inner35 (G : VProg) (l : List V) (n0 idx : Int) : ∀ (k m : Nat) (out : List V) (n : Int) (σ : St), 0 ≤ n → n < 128 ^ (k + 1) → out.length + k ≤ 140737488355328 → k ≤ m → rebase? (some [1, 5, 7, 10, 11, 12, 14, 15]) 0 σ = st35 l n0 idx out n →
    step (call G m) (itersOf G) (exec G m) 0 (.loop (some [1, 5, 7, 10, 11, 12, 14, 15]) in35) σ = some (.exit 2, ex35 l n0 idx (out ++ pre k n) (lst k n))
  | 0, m, out, n, σ, h0, hn, hb, hm, hs => by
    refine step_loop_out hs ?_ (by intro e; cases e)
    simp only [pre, lst, List.append_nil]
    exact out35 _ _ _ l n0 idx out n (by simpa using hn)
  | k + 1, m, out, n, σ, h0, hn, hb, hm, hs => by
    cases h : decide (n ≥ 128) with
    | false =>
      refine step_loop_out hs ?_ (by intro e; cases e)
      have h' : ¬ n ≥ 128 := by simpa using h
      simp only [pre, lst, if_neg h', List.append_nil]
      exact out35 _ _ _ l n0 idx out n h
    | true =>
      have h' : n ≥ 128 := by simpa using h
      cases m with
      | zero => omega
      | succ m =>
      obtain ⟨r, h1, h2⟩ := round35 (call G (m + 1)) (itersOf G) (exec G (m + 1)) l n0 idx out n h (by omega)
      have e : n.fdiv (2 ^ 7) = n / 128 := by rw [Int.fdiv_eq_ediv_of_nonneg _ (by decide)]; rfl
      have h3 := inner35 G l n0 idx k m _ _ r (by rw [e]; omega) (by rw [e]; rw [Int.pow_succ] at hn; omega) (by simp; omega) (by omega) h2
      refine step_loop hs h1 ?_
      rw [exec_succ, h3]
      simp only [pre, lst, if_pos h', List.append_assoc, List.singleton_append, orb]
/-- The bytes of a number. -/
def dg (n : Int) : List V := pre 9 n ++ [.int .u8 (IntKind.u8.wrap (lst 9 n))]
def so35 (ns : List Int) (i : Nat) (out : List V) : St :=
  { slots := (.gone 0 :: .isl 0 1 (ns.map (V.int .u64)) :: .gone 0 :: .gone 0 :: .gone 0 :: .xsl 0 1 out :: .gone 0 :: .gone 0 :: .gone 0 :: .gone 0 :: .isl 0 1 (ns.map (V.int .u64)) :: .int .i64 (ns.map (V.int .u64)).length :: .int .i64 i :: .gone 0 :: .gone 0 :: .gone 0 :: .gone 0 :: .gone 0 :: .gone 0 :: .gone 0 :: .gone 0 :: .gone 0 :: .gone 0 :: .gone 0 :: .gone 0 :: .gone 0 :: .gone 0 :: .gone 0 :: .gone 0 :: .gone 0 :: .gone 0 :: .gone 0 :: .gone 0 :: []), objs := [] }
def out35b : VCode := match b35 with | .seq _ (.seq _ (.seq (.seq _ (.block _ _ (.loop _ b))) _)) => b | _ => .skip
theorem out35b_eq : out35b = (.seq (.region [{ dst := (some 13), op := .bin (.lss) (.tmp 12) (.tmp 11), guard := none, before := 0 }] false) (.seq (.cond (.tmp 13) (.skip) (.exit 0)) (.seq (.block 1 (some [1, 5, 10, 11, 12]) (.seq (.region [{ dst := (some 14), op := .indexAddr none 1 (.tmp 10) (.tmp 12), guard := none, before := 0 }, { dst := (some 15), op := .load false 1 (.tmp 14), guard := none, before := 1 }, { dst := (some 7), op := .assign (.tmp 15), guard := none, before := 3 }] false) (.seq (.block 2 (some [1, 5, 7, 10, 11, 12, 14, 15]) (.loop (some [1, 5, 7, 10, 11, 12, 14, 15]) (.seq (.seq (.region [{ dst := (some 16), op := .move (.tmp 7), guard := none, before := 0 }, { dst := (some 17), op := .bin (.geq) (.tmp 16) (.val (.int .u64 128)), guard := none, before := 1 }] false) (.cond (.tmp 17) (.skip) (.exit 2))) (.seq (.block 3 none (.region [{ dst := (some 20), op := .move (.tmp 5), guard := none, before := 0 }, { dst := (some 21), op := .move (.tmp 7), guard := none, before := 0 }, { dst := (some 22), op := .conv (.int (.u8)) (.tmp 21), guard := none, before := 2 }, { dst := (some 23), op := .bin (.or) (.tmp 22) (.val (.int .u8 128)), guard := none, before := 6 }, { dst := (some 24), op := .buildSlice 1 [(.int .u8 0)] [(0, (.tmp 23))], guard := none, before := 14 }, { dst := (some 25), op := .append 1 1 (.tmp 20) (.tmp 24), guard := none, before := 31 }, { dst := (some 5), op := .assign (.tmp 25), guard := none, before := 63 }] false)) (.region [{ dst := (some 18), op := .move (.tmp 7), guard := none, before := 0 }, { dst := (some 19), op := .bin (.shr) (.tmp 18) (.val (.int .u64 7)), guard := none, before := 1 }, { dst := (some 7), op := .assign (.tmp 19), guard := none, before := 3 }] false))))) (.region [{ dst := (some 26), op := .move (.tmp 5), guard := none, before := 0 }, { dst := (some 27), op := .move (.tmp 7), guard := none, before := 0 }, { dst := (some 28), op := .conv (.int (.u8)) (.tmp 27), guard := none, before := 2 }, { dst := (some 29), op := .buildSlice 1 [(.int .u8 0)] [(0, (.tmp 28))], guard := none, before := 6 }, { dst := (some 30), op := .append 1 1 (.tmp 26) (.tmp 29), guard := none, before := 15 }, { dst := (some 5), op := .assign (.tmp 30), guard := none, before := 31 }] false)))) (.region [{ dst := (some 31), op := .bin (.add) (.tmp 12) (.val (.int .i64 1)), guard := none, before := 0 }, { dst := (some 12), op := .move (.tmp 31), guard := none, before := 1 }] false)))) := rfl
theorem pre_len : ∀ k n, (pre k n).length ≤ k
  | 0, n => by simp [pre]
  | k + 1, n => by unfold pre; split; · simpa using pre_len k _
                   · simp
theorem roundo35 (G : VProg) (m : Nat) (hm : 10 ≤ m) (ns : List Int) (hns : ∀ n ∈ ns, 0 ≤ n ∧ n < 18446744073709551616) (i : Nat) (hi : i < ns.length) (out : List V) (hb : out.length + 12 ≤ 140737488355328) (hl : ns.length ≤ 140737488355328) :
    ∃ s, step (call G m) (itersOf G) (exec G m) 0 out35b (so35 ns i out) = some (.normal, s) ∧ rebase? (some [1, 5, 10, 11, 12]) 0 s = so35 ns (i + 1) (out ++ dg ns[i]) := by
  have hx : (ns.map (V.int .u64))[((i : Int)).toNat]? = some (.int .u64 ns[i]) := by simp [hi]
  have hlt : decide ((i : Int) < ((ns.map (V.int .u64)).length : Int)) = true := by simp; omega
  have hn := hns ns[i] (List.getElem_mem hi)
  have hadd : IntKind.i64.wrap ((i : Int) + 1) = ((i + 1 : Nat) : Int) := by
    simp only [IntKind.wrap, IntKind.bits, IntKind.signed]; simp; omega
  rw [out35b_eq]
  unfold so35
  apply vround
  · (with_reducible apply Vq.vseq)
    · repeat' (((first
      | (with_reducible exact Vq.runOps_nil)
      | ((with_reducible apply Vq.runOps_cons); (first | exact rfl))
      | ((with_reducible first | apply Vq.vret | apply Vq.vskip | apply Vq.vexit | apply Vq.vab0 | apply Vq.vab1 | apply Vq.vabr); exact rfl)
      | ((with_reducible apply Vq.vregion); case hr => exact rfl)
      | (with_reducible first | apply Vq.vseq | apply Vq.vblock)
      | ((with_reducible apply Vq.vcond); exact rfl; dsimp only [Vq.pickC])
      | ((with_reducible apply Vq.vabx); (· decide); exact rfl) | dsimp only [Vq.afterSeq]); (try simp only [z1, z2, z3, z4, z5, z6, z7, z8, z9, z10, z11, z12, z13, z14, z15, z16, z17, z18, V.withLeaves, V.borrow, freeze1, borrows, borrow1, V.leaves, V.nextg, Nat.reduceAdd, Nat.reduceSub, layTup, obj1, splice, Bool.false_eq_true, if_true, if_false, Bool.not_true, Bool.not_false, hlt])))
    dsimp only [afterSeq]
    (with_reducible apply Vq.vseq)
    · repeat' (((first
      | (with_reducible exact Vq.runOps_nil)
      | ((with_reducible apply Vq.runOps_cons); (first | exact rfl))
      | ((with_reducible first | apply Vq.vret | apply Vq.vskip | apply Vq.vexit | apply Vq.vab0 | apply Vq.vab1 | apply Vq.vabr); exact rfl)
      | ((with_reducible apply Vq.vregion); case hr => exact rfl)
      | (with_reducible first | apply Vq.vseq | apply Vq.vblock)
      | ((with_reducible apply Vq.vcond); exact rfl; dsimp only [Vq.pickC])
      | ((with_reducible apply Vq.vabx); (· decide); exact rfl) | dsimp only [Vq.afterSeq]); (try simp only [z1, z2, z3, z4, z5, z6, z7, z8, z9, z10, z11, z12, z13, z14, z15, z16, z17, z18, V.withLeaves, V.borrow, freeze1, borrows, borrow1, V.leaves, V.nextg, Nat.reduceAdd, Nat.reduceSub, layTup, obj1, splice, Bool.false_eq_true, if_true, if_false, Bool.not_true, Bool.not_false, hlt])))
    dsimp only [afterSeq]
    (with_reducible apply Vq.vseq)
    · (with_reducible apply vblock)
      · (with_reducible apply Vq.vseq)
        · (with_reducible apply Vq.vregion); case hr => exact rfl
          (with_reducible apply Vq.runOps_cons)
          · apply vidx rfl rfl (.inl rfl) (by omega) hx
            exact rfl
          (try simp only [z1, z2, z3, z4, z5, z6, z7, z8, z9, z10, z11, z12, z13, z14, z15, z16, z17, z18, V.withLeaves, V.borrow, freeze1, borrows, borrow1, V.leaves, V.nextg, Nat.reduceAdd, Nat.reduceSub, layTup, obj1, splice, Bool.false_eq_true, if_true, if_false, Bool.not_true, Bool.not_false])
          repeat' (((first
      | (with_reducible exact Vq.runOps_nil)
      | ((with_reducible apply Vq.runOps_cons); (first | exact rfl))
      | ((with_reducible first | apply Vq.vret | apply Vq.vskip | apply Vq.vexit | apply Vq.vab0 | apply Vq.vab1 | apply Vq.vabr); exact rfl)
      | ((with_reducible apply Vq.vregion); case hr => exact rfl)
      | (with_reducible first | apply Vq.vseq | apply Vq.vblock)
      | ((with_reducible apply Vq.vcond); exact rfl; dsimp only [Vq.pickC])
      | ((with_reducible apply Vq.vabx); (· decide); exact rfl) | dsimp only [Vq.afterSeq]); (try simp only [z1, z2, z3, z4, z5, z6, z7, z8, z9, z10, z11, z12, z13, z14, z15, z16, z17, z18, V.withLeaves, V.borrow, freeze1, borrows, borrow1, V.leaves, V.nextg, Nat.reduceAdd, Nat.reduceSub, layTup, obj1, splice, Bool.false_eq_true, if_true, if_false, Bool.not_true, Bool.not_false])))
        dsimp only [afterSeq]
        (with_reducible apply Vq.vseq)
        · (with_reducible apply vblock)
          · exact inner35 G _ ns[i] i 9 m out ns[i] _ hn.1 (by omega) (by omega) (by omega) rfl
          · apply vabkx (τ := st35 (ns.map (V.int .u64)) ns[i] i (out ++ pre 9 ns[i]) (lst 9 ns[i])) rfl
            exact rfl
        dsimp only [afterSeq]
        unfold st35
        repeat' (((first
      | (with_reducible exact Vq.runOps_nil)
      | ((with_reducible apply Vq.runOps_cons); (first | exact rfl | (apply Vq.run_asks; (· simp); (try simp only [List.take_length, List.drop_zero]); apply Vq.run_if trivial; unfold Vq.sHome; simp only [Vq.Prog.run]; apply Vq.run_asks; (· exact Nat.zero_lt_one); apply Vq.run_asks; (· exact ⟨trivial, by (have := pre_len 9 ns[i]; simp; omega)⟩); exact rfl) | (apply Vq.run_asks; (· exact rfl); apply Vq.run_asks; (· exact ⟨rfl, by (have := pre_len 9 ns[i]; simp; omega)⟩); exact rfl) | (apply Vq.run_asks; (· exact ⟨rfl, by (have := pre_len 9 ns[i]; simp; omega)⟩); exact rfl)))
      | ((with_reducible first | apply Vq.vret | apply Vq.vskip | apply Vq.vexit | apply Vq.vab0 | apply Vq.vab1 | apply Vq.vabr); exact rfl)
      | ((with_reducible apply Vq.vregion); case hr => exact rfl)
      | (with_reducible first | apply Vq.vseq | apply Vq.vblock)
      | ((with_reducible apply Vq.vcond); exact rfl; dsimp only [Vq.pickC])
      | ((with_reducible apply Vq.vabx); (· decide); exact rfl) | dsimp only [Vq.afterSeq]); (try simp only [z1, z2, z3, z4, z5, z6, z7, z8, z9, z10, z11, z12, z13, z14, z15, z16, z17, z18, V.withLeaves, V.borrow, freeze1, borrows, borrow1, V.leaves, V.nextg, Nat.reduceAdd, Nat.reduceSub, layTup, obj1, splice, Bool.false_eq_true, if_true, if_false, Bool.not_true, Bool.not_false, List.take_length])))
      · apply vabk (τ := so35 ns i (out ++ dg ns[i]))
        · unfold dg so35
          rw [← List.append_assoc]
          exact rfl
        · exact rfl
    dsimp only [afterSeq]
    unfold so35
    repeat' (((first
      | (with_reducible exact Vq.runOps_nil)
      | ((with_reducible apply Vq.runOps_cons); (first | exact rfl))
      | ((with_reducible first | apply Vq.vret | apply Vq.vskip | apply Vq.vexit | apply Vq.vab0 | apply Vq.vab1 | apply Vq.vabr); exact rfl)
      | ((with_reducible apply Vq.vregion); case hr => exact rfl)
      | (with_reducible first | apply Vq.vseq | apply Vq.vblock)
      | ((with_reducible apply Vq.vcond); exact rfl; dsimp only [Vq.pickC])
      | ((with_reducible apply Vq.vabx); (· decide); exact rfl) | dsimp only [Vq.afterSeq]); (try simp only [z1, z2, z3, z4, z5, z6, z7, z8, z9, z10, z11, z12, z13, z14, z15, z16, z17, z18, V.withLeaves, V.borrow, freeze1, borrows, borrow1, V.leaves, V.nextg, Nat.reduceAdd, Nat.reduceSub, layTup, obj1, splice, Bool.false_eq_true, if_true, if_false, Bool.not_true, Bool.not_false, hadd])))
  · exact rfl
def eo35 (ns : List Int) (i : Nat) (out : List V) : St :=
  { slots := (.gone 0 :: .isl 0 1 (ns.map (V.int .u64)) :: .gone 0 :: .gone 0 :: .gone 0 :: .xsl 0 1 out :: .gone 0 :: .gone 0 :: .gone 0 :: .gone 0 :: .isl 0 1 (ns.map (V.int .u64)) :: .int .i64 (ns.map (V.int .u64)).length :: .int .i64 i :: .bool false :: .gone 0 :: .gone 0 :: .gone 0 :: .gone 0 :: .gone 0 :: .gone 0 :: .gone 0 :: .gone 0 :: .gone 0 :: .gone 0 :: .gone 0 :: .gone 0 :: .gone 0 :: .gone 0 :: .gone 0 :: .gone 0 :: .gone 0 :: .gone 0 :: .gone 0 :: []), objs := [] }
theorem outx35 (ns : List Int) (i : Nat) (hi : ns.length ≤ i) (out : List V) : step cal its again 0 out35b (so35 ns i out) = some (.exit 0, eo35 ns i out) := by
  have hlt : decide ((i : Int) < ((ns.map (V.int .u64)).length : Int)) = false := by simp; omega
  rw [out35b_eq]
  unfold so35 eo35
  repeat' (((first
      | (with_reducible exact Vq.runOps_nil)
      | ((with_reducible apply Vq.runOps_cons); (first | exact rfl))
      | ((with_reducible first | apply Vq.vret | apply Vq.vskip | apply Vq.vexit | apply Vq.vab0 | apply Vq.vab1 | apply Vq.vabr); exact rfl)
      | ((with_reducible apply Vq.vregion); case hr => exact rfl)
      | (with_reducible first | apply Vq.vseq | apply Vq.vblock)
      | ((with_reducible apply Vq.vcond); exact rfl; dsimp only [Vq.pickC])
      | ((with_reducible apply Vq.vabx); (· decide); exact rfl) | dsimp only [Vq.afterSeq]); (try simp only [z1, z2, z3, z4, z5, z6, z7, z8, z9, z10, z11, z12, z13, z14, z15, z16, z17, z18, V.withLeaves, V.borrow, freeze1, borrows, borrow1, V.leaves, V.nextg, Nat.reduceAdd, Nat.reduceSub, layTup, obj1, splice, Bool.false_eq_true, if_true, if_false, Bool.not_true, Bool.not_false, hlt])))
theorem dg_len (n : Int) : (dg n).length ≤ 10 := by have := pre_len 9 n; simp [dg]; omega
def dgs (ns : List Int) : List V := ns.flatMap dg
theorem outer35 (G : VProg) (ns : List Int) (hns : ∀ n ∈ ns, 0 ≤ n ∧ n < 18446744073709551616) (hl : ns.length ≤ 140737488355328) : ∀ (j i m : Nat) (out : List V) (σ : St), i + j = ns.length → out.length + 10 * j + 12 ≤ 140737488355328 → 10 + j ≤ m → rebase? (some [1, 5, 10, 11, 12]) 0 σ = so35 ns i out →
    step (call G m) (itersOf G) (exec G m) 0 (.loop (some [1, 5, 10, 11, 12]) out35b) σ = some (.exit 0, eo35 ns ns.length (out ++ dgs (ns.drop i)))
  | 0, i, m, out, σ, hi, hb, hm, hs => by
    refine step_loop_out hs ?_ (by intro e; cases e)
    obtain rfl : i = ns.length := by omega
    simp only [List.drop_length, dgs, List.flatMap_nil, List.append_nil]
    exact outx35 _ _ _ ns _ (Nat.le_refl _) out
  | j + 1, i, m, out, σ, hi, hb, hm, hs => by
    cases m with
    | zero => omega
    | succ m =>
    obtain ⟨r, h1, h2⟩ := roundo35 G (m + 1) (by omega) ns hns i (by omega) out (by omega) hl
    have hd := dg_len ns[i]
    have h3 := outer35 G ns hns hl j (i + 1) m _ r (by omega) (by simp; omega) (by omega) h2
    refine step_loop hs h1 ?_
    rw [exec_succ, h3]
    rw [List.drop_eq_getElem_cons (show i < ns.length by omega)]
    simp only [dgs, List.flatMap_cons, List.append_assoc]
/-- packet.Number -/
theorem num35 (G : VProg) (hG : G 35 = some (.code v35)) (h53 : ∀ m es, es.length ≤ 140737488355328 → call G m 53 [.isl 0 1 es] [] = some (.xsl 0 1 es, [])) (ns : List Int) (hns : ∀ n ∈ ns, 0 ≤ n ∧ n < 18446744073709551616) (b : List V) (hbn : ∀ x ∈ b, x.noslice = true) (hb : b.length + 10 * ns.length + 12 ≤ 140737488355328) (m : Nat) (hm : ns.length + 11 ≤ m) :
    call G m 35 [.isl 0 1 b, .isl 0 1 (ns.map (V.int .u64))] [] = some (.xsl 0 1 (b ++ dgs ns), []) := by
  obtain ⟨m, rfl⟩ : ∃ k, m = k + 1 := ⟨m - 1, by omega⟩
  apply call_code (o := .ret) hG ⟨rfl, by decide⟩
  · change step (call G m) (itersOf G) (exec G m) 0 b35 _ = _
    (try simp only [Vq.start, List.length_cons, List.length_nil, List.map_cons, List.map_nil, List.cons_append, List.nil_append, List.replicate_succ, List.replicate_zero, Nat.reduceAdd, Nat.reduceSub, v35])
    unfold b35
    (with_reducible apply Vq.vseq)
    · repeat' (((first
      | (with_reducible exact Vq.runOps_nil)
      | ((with_reducible apply Vq.runOps_cons); (first | exact rfl))
      | ((with_reducible first | apply Vq.vret | apply Vq.vskip | apply Vq.vexit | apply Vq.vab0 | apply Vq.vab1 | apply Vq.vabr); exact rfl)
      | ((with_reducible apply Vq.vregion); case hr => exact rfl)
      | (with_reducible first | apply Vq.vseq | apply Vq.vblock)
      | ((with_reducible apply Vq.vcond); exact rfl; dsimp only [Vq.pickC])
      | ((with_reducible apply Vq.vabx); (· decide); exact rfl) | dsimp only [Vq.afterSeq]); (try simp only [z1, z2, z3, z4, z5, z6, z7, z8, z9, z10, z11, z12, z13, z14, z15, z16, z17, z18, V.withLeaves, V.borrow, freeze1, borrows, borrow1, V.leaves, V.nextg, Nat.reduceAdd, Nat.reduceSub, layTup, obj1, splice, Bool.false_eq_true, if_true, if_false, Bool.not_true, Bool.not_false])))
    dsimp only [afterSeq]
    (with_reducible apply Vq.vseq)
    · repeat' (((first
      | (with_reducible exact Vq.runOps_nil)
      | ((with_reducible apply Vq.runOps_cons); (first | exact rfl | (apply Vq.vcallA; exact rfl; exact fun _ => rfl; exact rfl; (first | exact h53 _ _ (by omega)); (first | exact rfl | (simp [Vq.V.apart, Vq.V.leaves, Vq.V.noslice]; done) | (simp [Vq.V.apart, Vq.V.leaves, Vq.V.noslice]; assumption)); exact rfl)))
      | ((with_reducible first | apply Vq.vret | apply Vq.vskip | apply Vq.vexit | apply Vq.vab0 | apply Vq.vab1 | apply Vq.vabr); exact rfl)
      | ((with_reducible apply Vq.vregion); case hr => exact rfl)
      | (with_reducible first | apply Vq.vseq | apply Vq.vblock)
      | ((with_reducible apply Vq.vcond); exact rfl; dsimp only [Vq.pickC])
      | ((with_reducible apply Vq.vabx); (· decide); exact rfl) | dsimp only [Vq.afterSeq]); (try simp only [z1, z2, z3, z4, z5, z6, z7, z8, z9, z10, z11, z12, z13, z14, z15, z16, z17, z18, V.withLeaves, V.borrow, freeze1, borrows, borrow1, V.leaves, V.nextg, Nat.reduceAdd, Nat.reduceSub, layTup, obj1, splice, Bool.false_eq_true, if_true, if_false, Bool.not_true, Bool.not_false])))
    dsimp only [afterSeq]
    (with_reducible apply Vq.vseq)
    · (with_reducible apply Vq.vseq)
      · repeat' (((first
      | (with_reducible exact Vq.runOps_nil)
      | ((with_reducible apply Vq.runOps_cons); (first | exact rfl))
      | ((with_reducible first | apply Vq.vret | apply Vq.vskip | apply Vq.vexit | apply Vq.vab0 | apply Vq.vab1 | apply Vq.vabr); exact rfl)
      | ((with_reducible apply Vq.vregion); case hr => exact rfl)
      | (with_reducible first | apply Vq.vseq | apply Vq.vblock)
      | ((with_reducible apply Vq.vcond); exact rfl; dsimp only [Vq.pickC])
      | ((with_reducible apply Vq.vabx); (· decide); exact rfl) | dsimp only [Vq.afterSeq]); (try simp only [z1, z2, z3, z4, z5, z6, z7, z8, z9, z10, z11, z12, z13, z14, z15, z16, z17, z18, V.withLeaves, V.borrow, freeze1, borrows, borrow1, V.leaves, V.nextg, Nat.reduceAdd, Nat.reduceSub, layTup, obj1, splice, Bool.false_eq_true, if_true, if_false, Bool.not_true, Bool.not_false])))
      dsimp only [afterSeq]
      (with_reducible apply vblock)
      · exact outer35 G ns hns (by omega) ns.length 0 m b _ (by omega) (by omega) (by omega) rfl
      · apply vabkx (τ := { slots := (.gone 0 :: .gone 0 :: .gone 0 :: .gone 0 :: .gone 0 :: .xsl 0 1 (b ++ dgs ns) :: .gone 0 :: .gone 0 :: .gone 0 :: .gone 0 :: .gone 0 :: .gone 0 :: .gone 0 :: .gone 0 :: .gone 0 :: .gone 0 :: .gone 0 :: .gone 0 :: .gone 0 :: .gone 0 :: .gone 0 :: .gone 0 :: .gone 0 :: .gone 0 :: .gone 0 :: .gone 0 :: .gone 0 :: .gone 0 :: .gone 0 :: .gone 0 :: .gone 0 :: .gone 0 :: .gone 0 :: []), objs := [] }) rfl
        exact rfl
    dsimp only [afterSeq]
    repeat' (((first
      | (with_reducible exact Vq.runOps_nil)
      | ((with_reducible apply Vq.runOps_cons); (first | exact rfl))
      | ((with_reducible first | apply Vq.vret | apply Vq.vskip | apply Vq.vexit | apply Vq.vab0 | apply Vq.vab1 | apply Vq.vabr); exact rfl)
      | ((with_reducible apply Vq.vregion); case hr => exact rfl)
      | (with_reducible first | apply Vq.vseq | apply Vq.vblock)
      | ((with_reducible apply Vq.vcond); exact rfl; dsimp only [Vq.pickC])
      | ((with_reducible apply Vq.vabx); (· decide); exact rfl) | dsimp only [Vq.afterSeq]); (try simp only [z1, z2, z3, z4, z5, z6, z7, z8, z9, z10, z11, z12, z13, z14, z15, z16, z17, z18, V.withLeaves, V.borrow, freeze1, borrows, borrow1, V.leaves, V.nextg, Nat.reduceAdd, Nat.reduceSub, layTup, obj1, splice, Bool.false_eq_true, if_true, if_false, Bool.not_true, Bool.not_false])))
  · exact .inr rfl
  · first | exact rfl | (apply Vq.vfin; (· apply Vq.run_asks; (· simp); (try simp only [List.take_length, List.drop_zero]); (first | apply Vq.run_if trivial | apply Vq.run_if rfl); unfold Vq.sHome; simp only [Vq.Prog.run]; apply Vq.run_asks; (· exact Nat.zero_lt_one); exact rfl); (· exact rfl); (· exact rfl); (· decide); (· exact rfl); (· exact rfl))
end S2
namespace S3
open S2
theorem dgs_noslice (ns : List Int) : ∀ x ∈ [] ++ dgs ns, x.noslice = true := by
  intro x hx
  simp only [List.nil_append, dgs, List.mem_flatMap] at hx
  obtain ⟨n, _, hx⟩ := hx
  have hpre : ∀ k n, ∀ x ∈ pre k n, x.noslice = true := by
    intro k
    induction k with
    | zero => intro n x hx; simp [pre] at hx
    | succ k ih =>
      intro n x hx
      unfold pre at hx
      split at hx
      · rcases List.mem_cons.1 hx with rfl | hx
        · rfl
        · exact ih _ x hx
      · cases hx
  rcases List.mem_append.1 hx with hx | hx
  · exact hpre _ _ x hx
  · simp at hx; subst hx; rfl
end S3
namespace S4
/-- A number's bytes as numbers. -/
def enc : Nat → Nat → List Nat
  | 0, N => [N % 256]
  | k + 1, N => if 128 ≤ N then (128 + N % 128) :: enc k (N / 128) else [N]
theorem orBit : ∀ x : BitVec 8, (x ||| BitVec.ofInt 8 128).toNat = 128 + x.toNat % 128 := by decide
theorem wrap8 (n : Int) : IntKind.u8.wrap n = n % 256 := by
  simp only [IntKind.wrap, IntKind.bits, IntKind.signed]; simp
end S4
namespace S6
section
variable {cal : Callee} {σ τ : St} {base : Nat}
theorem vguard {d : Option Nat} {op : VOp} {y : Nat} {b : Bool} {bf : Nat} (hy : σ.slot y = .bool b) (h : (VOper.prog cal base ⟨d, op, none, bf⟩).run σ = some τ) : (VOper.prog cal base ⟨d, op, some (y, b), bf⟩).run σ = some τ := by
  simp only [VOper.prog, Prog.run, hy, beq_self_eq_true, if_true] at h ⊢
  exact h
theorem vguard_foot {d : Option Nat} {op : VOp} {y : Nat} {b : Bool} {bf : Nat} {fr : List Loc × List Loc} (hy : σ.slot y = .bool b) (h : (VOper.prog cal base ⟨d, op, none, bf⟩).foot σ = fr) : (VOper.prog cal base ⟨d, op, some (y, b), bf⟩).foot σ = (.slot y :: fr.1, fr.2) := by
  simp only [VOper.prog, Prog.foot, hy, beq_self_eq_true, if_true] at h ⊢
  rw [h]
theorem vtextI {d : Option Nat} {x bf g : Nat} {es : List V} {s : List UInt8} (hx : σ.slot x = .isl g 1 es) (ht : textV es = some s) (hp : (putO d (.str s) .ret).run σ = some τ) :
    (VOper.prog cal base ⟨d, .conv .text (.tmp x), none, bf⟩).run σ = some τ := by
  simp only [VOper.prog, opProg, gOpd, Prog.run, hx, gView, optV, ht]
  exact hp
theorem vtextI_foot {d : Option Nat} {x bf g : Nat} {es : List V} {s : List UInt8} {fr : List Loc × List Loc} (hx : σ.slot x = .isl g 1 es) (ht : textV es = some s) (hp : (putO d (.str s) .ret).foot σ = fr) :
    (VOper.prog cal base ⟨d, .conv .text (.tmp x), none, bf⟩).foot σ = (.slot x :: fr.1, fr.2) := by
  simp only [VOper.prog, opProg, gOpd, Prog.foot, hx, gView, optV, ht, hp]
theorem vtextR {d : Option Nat} {x y bf g : Nat} {es : List V} {s : List UInt8} (hx : σ.slot x = .srf (.slot y 0) g 1 0 es.length) (hy : σ.slot y = .xsl g 1 es) (ht : textV es = some s) (hp : (putO d (.str s) .ret).run σ = some τ) :
    (VOper.prog cal base ⟨d, .conv .text (.tmp x), none, bf⟩).run σ = some τ := by
  have e : List.take es.length (List.drop 0 es) = es := by simp
  simp only [VOper.prog, opProg, gOpd, Prog.run, hx, gView, optV, gElems, gHome, hy, V.leaves, List.getElem?_cons_zero, and_self, if_true, Nat.zero_add, Nat.le_refl, e, ht]
  exact hp
theorem vtextR_foot {d : Option Nat} {x y bf g : Nat} {es : List V} {s : List UInt8} {fr : List Loc × List Loc} (hx : σ.slot x = .srf (.slot y 0) g 1 0 es.length) (hy : σ.slot y = .xsl g 1 es) (ht : textV es = some s) (hp : (putO d (.str s) .ret).foot σ = fr) :
    (VOper.prog cal base ⟨d, .conv .text (.tmp x), none, bf⟩).foot σ = (.slot x :: .slot y :: fr.1, fr.2) := by
  have e : List.take es.length (List.drop 0 es) = es := by simp
  simp only [VOper.prog, opProg, gOpd, Prog.foot, hx, gView, optV, gElems, gHome, hy, V.leaves, List.getElem?_cons_zero, and_self, if_true, Nat.zero_add, Nat.le_refl, e, ht, hp]
end
end S6
namespace S7
theorem textV_ex : ∀ {es : List V}, (∀ x ∈ es, ∃ n, x = .int .u8 n) → ∃ s, textV es = some s
  | [], _ => ⟨[], rfl⟩
  | x :: es, h => by
    obtain ⟨n, rfl⟩ := h x (by simp)
    obtain ⟨s, hs⟩ := textV_ex (es := es) fun y hy => h y (by simp [hy])
    exact ⟨UInt8.ofNat n.toNat :: s, by simp only [textV, hs, Option.map_some]⟩
def isB (x : V) : Prop := ∃ n, x = .int .u8 n
theorem isB.noslice {x : V} (h : isB x) : x.noslice = true := by obtain ⟨n, rfl⟩ := h; rfl
end S7
end Go.Vq

namespace Go.Vq
namespace S5
open Go S2 S3 S4
set_option maxRecDepth 1000000
/-- packhorse/packhorselaw06.PacketWrites -/
def b11 : VCode :=
  .seq
    (.region [{ dst := (some 6), op := .assign (.val (.bool false)), guard := none, before := 0 }] false)
    (.seq
      (.seq
        (.region [{ dst := (some 13), op := .call true 31 0 [], guard := none, before := 0 },
          { dst := (some 14), op := .un (.not) (.tmp 13), guard := none, before := 1 }] false)
        (.cond (.tmp 14)
          (.seq
            (.region [{ dst := (some 6), op := .assign (.val (.bool false)), guard := none, before := 0 }] false)
            (.ret))
          (.skip)))
      (.seq
        (.seq
          (.region [{ dst := (some 15), op := .move (.tmp 0), guard := none, before := 0 },
            { dst := (some 16), op := .len (.slc 1) (.tmp 15), guard := none, before := 1 },
            { dst := (some 17), op := .bin (.gtr) (.tmp 16) (.val (.int .i64 200)), guard := none, before := 3 },
            { dst := (some 18), op := .move (.tmp 17), guard := none, before := 7 },
            { dst := (some 19), op := .move (.tmp 1), guard := (some (18, false)), before := 15 },
            { dst := (some 20), op := .len (.slc 1) (.tmp 19), guard := (some (18, false)), before := 31 },
            { dst := (some 21), op := .bin (.gtr) (.tmp 20) (.val (.int .i64 30)), guard := (some (18, false)), before := 63 },
            { dst := (some 22), op := .pick (.tmp 18) (.val (.bool true)) (.tmp 21), guard := none, before := 127 },
            { dst := (some 23), op := .move (.tmp 22), guard := none, before := 255 },
            { dst := (some 24), op := .move (.tmp 2), guard := (some (23, false)), before := 511 },
            { dst := (some 25), op := .len (.slc 1) (.tmp 24), guard := (some (23, false)), before := 1023 },
            { dst := (some 26), op := .bin (.gtr) (.tmp 25) (.val (.int .i64 30)), guard := (some (23, false)), before := 2047 },
            { dst := (some 27), op := .pick (.tmp 23) (.val (.bool true)) (.tmp 26), guard := none, before := 4095 }] false)
          (.cond (.tmp 27)
            (.seq
              (.region [{ dst := (some 6), op := .assign (.val (.bool true)), guard := none, before := 0 }] false)
              (.ret))
            (.skip)))
        (.seq
          (.region [{ dst := (some 28), op := .buildSlice 1 [] [], guard := none, before := 0 },
            { dst := (some 29), op := .move (.tmp 0), guard := none, before := 0 },
            { dst := (some 30), op := .append 1 1 (.tmp 28) (.tmp 29), guard := none, before := 3 },
            { dst := (some 7), op := .assign (.tmp 30), guard := none, before := 7 }] false)
          (.seq
            (.seq
              (.region [{ dst := (some 31), op := .move (.tmp 1), guard := none, before := 0 },
                { dst := (some 32), op := .len (.slc 1) (.tmp 31), guard := none, before := 1 },
                { dst := (some 33), op := .move (.val (.int .i64 0)), guard := none, before := 0 }] false)
              (.block 0 (some [0, 1, 2, 7]) (.loop (some [0, 1, 2, 7, 31, 32, 33])
                  (.seq
                    (.region [{ dst := (some 34), op := .bin (.lss) (.tmp 33) (.tmp 32), guard := none, before := 0 }] false)
                    (.seq
                      (.cond (.tmp 34)
                        (.skip)
                        (.exit 0))
                      (.seq
                        (.block 1 none (.seq
                            (.region [{ dst := (some 35), op := .indexAddr none 1 (.tmp 31) (.tmp 33), guard := none, before := 0 },
                              { dst := (some 36), op := .load false 1 (.tmp 35), guard := none, before := 1 },
                              { dst := (some 9), op := .assign (.tmp 36), guard := none, before := 3 }] false)
                            (.region [{ dst := (some 37), op := .move (.tmp 7), guard := none, before := 0 },
                              { dst := (some 38), op := .move (.tmp 9), guard := none, before := 0 },
                              { dst := (some 39), op := .call true 36 0 [(.tmp 38)], guard := none, before := 2 },
                              { dst := (some 40), op := .append 1 1 (.tmp 37) (.tmp 39), guard := none, before := 7 },
                              { dst := (some 7), op := .assign (.tmp 40), guard := none, before := 15 }] false)))
                        (.region [{ dst := (some 41), op := .bin (.add) (.tmp 33) (.val (.int .i64 1)), guard := none, before := 0 },
                          { dst := (some 33), op := .move (.tmp 41), guard := none, before := 1 }] false)))))))
            (.seq
              (.seq
                (.region [{ dst := (some 42), op := .move (.tmp 2), guard := none, before := 0 },
                  { dst := (some 43), op := .len (.slc 1) (.tmp 42), guard := none, before := 1 },
                  { dst := (some 44), op := .move (.val (.int .i64 0)), guard := none, before := 0 }] false)
                (.block 2 (some [0, 1, 2, 7]) (.loop (some [0, 1, 2, 7, 42, 43, 44])
                    (.seq
                      (.region [{ dst := (some 45), op := .bin (.lss) (.tmp 44) (.tmp 43), guard := none, before := 0 }] false)
                      (.seq
                        (.cond (.tmp 45)
                          (.skip)
                          (.exit 2))
                        (.seq
                          (.block 3 none (.seq
                              (.region [{ dst := (some 46), op := .indexAddr none 1 (.tmp 42) (.tmp 44), guard := none, before := 0 },
                                { dst := (some 47), op := .load false 1 (.tmp 46), guard := none, before := 1 },
                                { dst := (some 11), op := .assign (.tmp 47), guard := none, before := 3 }] false)
                              (.seq
                                (.seq
                                  (.region [{ dst := (some 48), op := .move (.tmp 11), guard := none, before := 0 },
                                    { dst := (some 49), op := .len (.str) (.tmp 48), guard := none, before := 1 },
                                    { dst := (some 50), op := .bin (.gtr) (.tmp 49) (.val (.int .i64 300)), guard := none, before := 3 }] false)
                                  (.cond (.tmp 50)
                                    (.seq
                                      (.region [{ dst := (some 6), op := .assign (.val (.bool true)), guard := none, before := 0 }] false)
                                      (.ret))
                                    (.skip)))
                                (.region [{ dst := (some 51), op := .move (.tmp 7), guard := none, before := 0 },
                                  { dst := (some 52), op := .move (.tmp 11), guard := none, before := 0 },
                                  { dst := (some 53), op := .call true 37 0 [(.tmp 52)], guard := none, before := 2 },
                                  { dst := (some 54), op := .append 1 1 (.tmp 51) (.tmp 53), guard := none, before := 7 },
                                  { dst := (some 7), op := .assign (.tmp 54), guard := none, before := 15 }] false))))
                          (.region [{ dst := (some 55), op := .bin (.add) (.tmp 44) (.val (.int .i64 1)), guard := none, before := 0 },
                            { dst := (some 44), op := .move (.tmp 55), guard := none, before := 1 }] false)))))))
              (.seq
                (.region [{ dst := (some 56), op := .move (.tmp 0), guard := none, before := 0 },
                  { dst := (some 57), op := .conv (.text) (.tmp 56), guard := none, before := 1 },
                  { dst := (some 12), op := .assign (.tmp 57), guard := none, before := 3 }] false)
                (.seq
                  (.region [{ dst := (some 58), op := .move (.tmp 0), guard := none, before := 0 },
                    { dst := (some 59), op := .move (.tmp 1), guard := none, before := 0 },
                    { dst := (some 60), op := .call true 35 0 [(.tmp 58), (.tmp 59)], guard := none, before := 3 },
                    { dst := (some 61), op := .move (.tmp 2), guard := none, before := 0 },
                    { dst := (some 62), op := .call true 38 0 [(.tmp 60), (.tmp 61)], guard := none, before := 15 },
                    { dst := (some 63), op := .conv (.text) (.tmp 62), guard := none, before := 31 },
                    { dst := (some 64), op := .move (.tmp 7), guard := none, before := 0 },
                    { dst := (some 65), op := .conv (.text) (.tmp 64), guard := none, before := 64 },
                    { dst := (some 66), op := .eq false (.num) (.tmp 63) (.tmp 65), guard := none, before := 255 },
                    { dst := (some 67), op := .move (.tmp 66), guard := none, before := 511 },
                    { dst := (some 68), op := .move (.tmp 0), guard := (some (67, true)), before := 1023 },
                    { dst := (some 69), op := .conv (.text) (.tmp 68), guard := (some (67, true)), before := 2047 },
                    { dst := (some 70), op := .move (.tmp 12), guard := (some (67, true)), before := 1023 },
                    { dst := (some 71), op := .eq false (.num) (.tmp 69) (.tmp 70), guard := (some (67, true)), before := 8191 },
                    { dst := (some 72), op := .pick (.tmp 67) (.tmp 71) (.val (.bool false)), guard := none, before := 16383 },
                    { dst := (some 6), op := .assign (.tmp 72), guard := none, before := 32767 }] true)
                  (.ret))))))))
def v11 : VFunc := { nparams := 3, ntmps := 73, nsites := 0, results := [.tmp 6], body := b11 }
/-- packhorse/packhorseref06.Number -/
def b36 : VCode :=
  .seq
    (.region [{ dst := (some 2), op := .assign (.val (.nilS 1)), guard := none, before := 0 }] false)
    (.seq
      (.region [{ dst := (some 4), op := .buildSlice 1 [] [], guard := none, before := 0 },
        { dst := (some 3), op := .assign (.tmp 4), guard := none, before := 1 }] false)
      (.seq
        (.block 0 (some [0, 3]) (.loop (some [0, 3])
            (.seq
              (.seq
                (.region [{ dst := (some 5), op := .move (.tmp 0), guard := none, before := 0 },
                  { dst := (some 6), op := .bin (.geq) (.tmp 5) (.val (.int .u64 128)), guard := none, before := 1 }] false)
                (.cond (.tmp 6)
                  (.skip)
                  (.exit 0)))
              (.block 1 none (.seq
                  (.region [{ dst := (some 7), op := .move (.tmp 3), guard := none, before := 0 },
                    { dst := (some 8), op := .move (.tmp 0), guard := none, before := 0 },
                    { dst := (some 9), op := .bin (.rem) (.tmp 8) (.val (.int .u64 128)), guard := none, before := 2 },
                    { dst := (some 10), op := .bin (.add) (.val (.int .u64 128)) (.tmp 9), guard := none, before := 6 },
                    { dst := (some 11), op := .conv (.int (.u8)) (.tmp 10), guard := none, before := 14 },
                    { dst := (some 12), op := .buildSlice 1 [(.int .u8 0)] [(0, (.tmp 11))], guard := none, before := 30 },
                    { dst := (some 13), op := .append 1 1 (.tmp 7) (.tmp 12), guard := none, before := 63 },
                    { dst := (some 3), op := .assign (.tmp 13), guard := none, before := 127 }] false)
                  (.region [{ dst := (some 14), op := .move (.tmp 0), guard := none, before := 0 },
                    { dst := (some 15), op := .bin (.quo) (.tmp 14) (.val (.int .u64 128)), guard := none, before := 1 },
                    { dst := (some 0), op := .assign (.tmp 15), guard := none, before := 3 }] false))))))
        (.seq
          (.region [{ dst := (some 16), op := .move (.tmp 3), guard := none, before := 0 },
            { dst := (some 17), op := .move (.tmp 0), guard := none, before := 0 },
            { dst := (some 18), op := .conv (.int (.u8)) (.tmp 17), guard := none, before := 2 },
            { dst := (some 19), op := .buildSlice 1 [(.int .u8 0)] [(0, (.tmp 18))], guard := none, before := 6 },
            { dst := (some 20), op := .append 1 1 (.tmp 16) (.tmp 19), guard := none, before := 15 },
            { dst := (some 2), op := .assign (.tmp 20), guard := none, before := 31 }] false)
          (.ret))))
def v36 : VFunc := { nparams := 1, ntmps := 21, nsites := 0, results := [.tmp 2], body := b36 }
/-- packhorse/packhorseref06.Text -/
def b37 : VCode :=
  .seq
    (.region [{ dst := (some 2), op := .assign (.val (.nilS 1)), guard := none, before := 0 }] false)
    (.seq
      (.region [{ dst := (some 3), op := .move (.tmp 0), guard := none, before := 0 },
        { dst := (some 4), op := .len (.str) (.tmp 3), guard := none, before := 1 },
        { dst := (some 5), op := .conv (.int (.u64)) (.tmp 4), guard := none, before := 3 },
        { dst := (some 6), op := .call true 36 0 [(.tmp 5)], guard := none, before := 7 },
        { dst := (some 7), op := .move (.tmp 0), guard := none, before := 0 },
        { dst := (some 8), op := .append 1 1 (.tmp 6) (.tmp 7), guard := none, before := 31 },
        { dst := (some 2), op := .assign (.tmp 8), guard := none, before := 63 }] false)
      (.ret))
def v37 : VFunc := { nparams := 1, ntmps := 9, nsites := 0, results := [.tmp 2], body := b37 }
/-- packhorse/packet.Text -/
def b38 : VCode :=
  .seq
    (.region [{ dst := (some 4), op := .assign (.val (.nilS 1)), guard := none, before := 0 }] false)
    (.seq
      (.region [{ dst := (some 8), op := .move (.tmp 0), guard := none, before := 0 },
        { dst := (some 9), op := .call true 53 0 [(.tmp 8)], guard := none, before := 1 },
        { dst := (some 5), op := .assign (.tmp 9), guard := none, before := 3 }] false)
      (.seq
        (.seq
          (.region [{ dst := (some 10), op := .move (.tmp 1), guard := none, before := 0 },
            { dst := (some 11), op := .len (.slc 1) (.tmp 10), guard := none, before := 1 },
            { dst := (some 12), op := .move (.val (.int .i64 0)), guard := none, before := 0 }] false)
          (.block 0 (some [5]) (.loop (some [1, 5, 10, 11, 12])
              (.seq
                (.region [{ dst := (some 13), op := .bin (.lss) (.tmp 12) (.tmp 11), guard := none, before := 0 }] false)
                (.seq
                  (.cond (.tmp 13)
                    (.skip)
                    (.exit 0))
                  (.seq
                    (.block 1 none (.seq
                        (.region [{ dst := (some 14), op := .indexAddr none 1 (.tmp 10) (.tmp 12), guard := none, before := 0 },
                          { dst := (some 15), op := .load false 1 (.tmp 14), guard := none, before := 1 },
                          { dst := (some 7), op := .assign (.tmp 15), guard := none, before := 3 }] false)
                        (.region [{ dst := (some 16), op := .move (.tmp 5), guard := none, before := 0 },
                          { dst := (some 17), op := .move (.tmp 7), guard := none, before := 0 },
                          { dst := (some 18), op := .len (.str) (.tmp 17), guard := none, before := 2 },
                          { dst := (some 19), op := .conv (.int (.u64)) (.tmp 18), guard := none, before := 6 },
                          { dst := (some 20), op := .buildSlice 1 [(.int .u64 0)] [(0, (.tmp 19))], guard := none, before := 14 },
                          { dst := (some 21), op := .call true 35 0 [(.tmp 16), (.tmp 20)], guard := none, before := 31 },
                          { dst := (some 22), op := .move (.tmp 7), guard := none, before := 0 },
                          { dst := (some 23), op := .append 1 1 (.tmp 21) (.tmp 22), guard := none, before := 127 },
                          { dst := (some 5), op := .assign (.tmp 23), guard := none, before := 255 }] false)))
                    (.region [{ dst := (some 24), op := .bin (.add) (.tmp 12) (.val (.int .i64 1)), guard := none, before := 0 },
                      { dst := (some 12), op := .move (.tmp 24), guard := none, before := 1 }] false)))))))
        (.seq
          (.region [{ dst := (some 25), op := .move (.tmp 5), guard := none, before := 0 },
            { dst := (some 4), op := .assign (.tmp 25), guard := none, before := 1 }] false)
          (.ret))))
def v38 : VFunc := { nparams := 2, ntmps := 26, nsites := 0, results := [.tmp 4], body := b38 }

variable (cal : Callee) (its : FuncId → Iter) (again : Nat → VCode → St → Option (Out × St))
/-! ### packhorseref06.Number -/
def body36 : VCode := (.seq (.seq (.region [{ dst := (some 5), op := .move (.tmp 0), guard := none, before := 0 }, { dst := (some 6), op := .bin (.geq) (.tmp 5) (.val (.int .u64 128)), guard := none, before := 1 }] false) (.cond (.tmp 6) (.skip) (.exit 0))) (.block 1 none (.seq (.region [{ dst := (some 7), op := .move (.tmp 3), guard := none, before := 0 }, { dst := (some 8), op := .move (.tmp 0), guard := none, before := 0 }, { dst := (some 9), op := .bin (.rem) (.tmp 8) (.val (.int .u64 128)), guard := none, before := 2 }, { dst := (some 10), op := .bin (.add) (.val (.int .u64 128)) (.tmp 9), guard := none, before := 6 }, { dst := (some 11), op := .conv (.int (.u8)) (.tmp 10), guard := none, before := 14 }, { dst := (some 12), op := .buildSlice 1 [(.int .u8 0)] [(0, (.tmp 11))], guard := none, before := 30 }, { dst := (some 13), op := .append 1 1 (.tmp 7) (.tmp 12), guard := none, before := 63 }, { dst := (some 3), op := .assign (.tmp 13), guard := none, before := 127 }] false) (.region [{ dst := (some 14), op := .move (.tmp 0), guard := none, before := 0 }, { dst := (some 15), op := .bin (.quo) (.tmp 14) (.val (.int .u64 128)), guard := none, before := 1 }, { dst := (some 0), op := .assign (.tmp 15), guard := none, before := 3 }] false))))
def st36 (n : Int) (out : List V) : St := { slots := (.int .u64 n :: .gone 0 :: .gone 0 :: .xsl 0 1 out :: .gone 0 :: .gone 0 :: .gone 0 :: .gone 0 :: .gone 0 :: .gone 0 :: .gone 0 :: .gone 0 :: .gone 0 :: .gone 0 :: .gone 0 :: .gone 0 :: .gone 0 :: .gone 0 :: .gone 0 :: .gone 0 :: .gone 0 :: []), objs := [] }
def ex36 (n : Int) (out : List V) : St := { slots := (.int .u64 n :: .gone 0 :: .gone 0 :: .xsl 0 1 out :: .gone 0 :: .int .u64 n :: .bool false :: .gone 0 :: .gone 0 :: .gone 0 :: .gone 0 :: .gone 0 :: .gone 0 :: .gone 0 :: .gone 0 :: .gone 0 :: .gone 0 :: .gone 0 :: .gone 0 :: .gone 0 :: .gone 0 :: []), objs := [] }
theorem round36 (n : Int) (out : List V) (h : decide (n ≥ 128) = true) (hb : out.length + 1 ≤ 140737488355328) :
    ∃ s, step cal its again 0 body36 (st36 n out) = some (.normal, s) ∧ rebase? (some [0, 3]) 0 s = st36 (IntKind.u64.wrap (n.tdiv 128)) (out ++ [.int .u8 (IntKind.u8.wrap (IntKind.u64.wrap (128 + n.tmod 128)))]) := by
  unfold body36 st36
  apply vround
  · repeat' (((first
      | (with_reducible exact Vq.runOps_nil)
      | ((with_reducible apply Vq.runOps_cons); (first | exact rfl | (apply Vq.run_asks; (· simp); (try simp only [List.take_length, List.drop_zero]); apply Vq.run_if trivial; unfold Vq.sHome; simp only [Vq.Prog.run]; apply Vq.run_asks; (· exact Nat.zero_lt_one); apply Vq.run_asks; (· exact ⟨trivial, by (simp; omega)⟩); exact rfl) | (apply Vq.run_asks; (· exact rfl); apply Vq.run_asks; (· exact ⟨rfl, by (simp; omega)⟩); exact rfl) | (apply Vq.run_asks; (· exact ⟨rfl, by (simp; omega)⟩); exact rfl)))
      | ((with_reducible first | apply Vq.vret | apply Vq.vskip | apply Vq.vexit | apply Vq.vab0 | apply Vq.vab1 | apply Vq.vabr); exact rfl)
      | ((with_reducible apply Vq.vregion); case hr => exact rfl)
      | (with_reducible first | apply Vq.vseq | apply Vq.vblock)
      | ((with_reducible apply Vq.vcond); exact rfl; dsimp only [Vq.pickC])
      | ((with_reducible apply Vq.vabx); (· decide); exact rfl) | dsimp only [Vq.afterSeq]); (try simp only [z1, z2, z3, z4, z5, z6, z7, z8, z9, z10, z11, z12, z13, z14, z15, z16, z17, z18, V.withLeaves, V.borrow, freeze1, borrows, borrow1, V.leaves, V.nextg, Nat.reduceAdd, Nat.reduceSub, layTup, obj1, splice, Bool.false_eq_true, if_true, if_false, Bool.not_true, Bool.not_false, h, List.take_length])))
  · exact rfl
theorem out36 (n : Int) (out : List V) (h : decide (n ≥ 128) = false) : step cal its again 0 body36 (st36 n out) = some (.exit 0, ex36 n out) := by
  unfold body36 st36 ex36
  repeat' (((first
      | (with_reducible exact Vq.runOps_nil)
      | ((with_reducible apply Vq.runOps_cons); (first | exact rfl))
      | ((with_reducible first | apply Vq.vret | apply Vq.vskip | apply Vq.vexit | apply Vq.vab0 | apply Vq.vab1 | apply Vq.vabr); exact rfl)
      | ((with_reducible apply Vq.vregion); case hr => exact rfl)
      | (with_reducible first | apply Vq.vseq | apply Vq.vblock)
      | ((with_reducible apply Vq.vcond); exact rfl; dsimp only [Vq.pickC])
      | ((with_reducible apply Vq.vabx); (· decide); exact rfl) | dsimp only [Vq.afterSeq]); (try simp only [z1, z2, z3, z4, z5, z6, z7, z8, z9, z10, z11, z12, z13, z14, z15, z16, z17, z18, V.withLeaves, V.borrow, freeze1, borrows, borrow1, V.leaves, V.nextg, Nat.reduceAdd, Nat.reduceSub, layTup, obj1, splice, Bool.false_eq_true, if_true, if_false, Bool.not_true, Bool.not_false, h])))
theorem orb_ref (n : Int) (h0 : 0 ≤ n) (hn : n < 18446744073709551616) : V.int .u8 (IntKind.u8.wrap (IntKind.u64.wrap (128 + n.tmod 128))) = orb n := by
  obtain ⟨N, rfl⟩ : ∃ N : Nat, n = N := ⟨n.toNat, by omega⟩
  have h1 : IntKind.u64.wrap (128 + (N : Int).tmod 128) = 128 + (N : Int) % 128 := by
    rw [Int.tmod_eq_emod_of_nonneg (by omega)]
    simp only [IntKind.wrap, IntKind.bits, IntKind.signed]
    simp
    omega
  rw [h1]
  unfold orb
  rw [orBit, wrap8, wrap8, wrap8]
  have h : (BitVec.ofInt 8 ((N : Int) % 256)).toNat = N % 256 := by
    rw [BitVec.toNat_ofInt]
    have : ((N : Int) % 256 % ((2 ^ 8 : Nat) : Int)) = ((N % 256 : Nat) : Int) := by
      simp
    rw [this]; rfl
  rw [h]
  have h2 : N % 256 % 128 = N % 128 := by omega
  rw [h2]
  congr 1
theorem loop36 (G : VProg) : ∀ (k m : Nat) (n : Int) (out : List V) (σ : St), 0 ≤ n → n < 128 ^ (k + 1) → n < 18446744073709551616 → out.length + k ≤ 140737488355328 → k ≤ m → rebase? (some [0, 3]) 0 σ = st36 n out →
    step (call G m) (itersOf G) (exec G m) 0 (.loop (some [0, 3]) body36) σ = some (.exit 0, ex36 (lst k n) (out ++ pre k n))
  | 0, m, n, out, σ, h0, hn, hn2, hb, hm, hs => by
    refine step_loop_out hs ?_ (by intro e; cases e)
    simp only [pre, lst, List.append_nil]
    exact out36 _ _ _ n out (by simpa using hn)
  | k + 1, m, n, out, σ, h0, hn, hn2, hb, hm, hs => by
    cases h : decide (n ≥ 128) with
    | false =>
      refine step_loop_out hs ?_ (by intro e; cases e)
      have h' : ¬ n ≥ 128 := by simpa using h
      simp only [pre, lst, if_neg h', List.append_nil]
      exact out36 _ _ _ n out h
    | true =>
      have h' : n ≥ 128 := by simpa using h
      cases m with
      | zero => omega
      | succ m =>
      obtain ⟨r, h1, h2⟩ := round36 (call G (m + 1)) (itersOf G) (exec G (m + 1)) n out h (by omega)
      rw [orb_ref n h0 hn2] at h2
      have e : IntKind.u64.wrap (n.tdiv 128) = n.fdiv (2 ^ 7) := by
        rw [Int.fdiv_eq_ediv_of_nonneg _ (by decide), Int.tdiv_eq_ediv_of_nonneg h0]
        simp only [IntKind.wrap, IntKind.bits, IntKind.signed]
        simp
        omega
      have e2 : n.fdiv (2 ^ 7) = n / 128 := by rw [Int.fdiv_eq_ediv_of_nonneg _ (by decide)]; rfl
      rw [e] at h2
      have h3 := loop36 G k m _ _ r (by rw [e2]; omega) (by rw [e2]; rw [Int.pow_succ] at hn; omega) (by rw [e2]; omega) (by simp; omega) (by omega) h2
      refine step_loop hs h1 ?_
      rw [exec_succ, h3]
      simp only [pre, lst, if_pos h', List.append_assoc, List.singleton_append]
theorem num36 (G : VProg) (hG : G 36 = some (.code v36)) (n : Int) (h0 : 0 ≤ n) (hn : n < 18446744073709551616) (m : Nat) (hm : 12 ≤ m) :
    call G m 36 [.int .u64 n] [] = some (.xsl 0 1 (dg n), []) := by
  obtain ⟨m, rfl⟩ : ∃ k, m = k + 1 := ⟨m - 1, by omega⟩
  apply call_code (o := .ret) hG ⟨rfl, by decide⟩
  · change step (call G m) (itersOf G) (exec G m) 0 b36 _ = _
    (try simp only [Vq.start, List.length_cons, List.length_nil, List.map_cons, List.map_nil, List.cons_append, List.nil_append, List.replicate_succ, List.replicate_zero, Nat.reduceAdd, Nat.reduceSub, v36])
    unfold b36
    (with_reducible apply Vq.vseq)
    · repeat' (((first
      | (with_reducible exact Vq.runOps_nil)
      | ((with_reducible apply Vq.runOps_cons); (first | exact rfl))
      | ((with_reducible first | apply Vq.vret | apply Vq.vskip | apply Vq.vexit | apply Vq.vab0 | apply Vq.vab1 | apply Vq.vabr); exact rfl)
      | ((with_reducible apply Vq.vregion); case hr => exact rfl)
      | (with_reducible first | apply Vq.vseq | apply Vq.vblock)
      | ((with_reducible apply Vq.vcond); exact rfl; dsimp only [Vq.pickC])
      | ((with_reducible apply Vq.vabx); (· decide); exact rfl) | dsimp only [Vq.afterSeq]); (try simp only [z1, z2, z3, z4, z5, z6, z7, z8, z9, z10, z11, z12, z13, z14, z15, z16, z17, z18, V.withLeaves, V.borrow, freeze1, borrows, borrow1, V.leaves, V.nextg, Nat.reduceAdd, Nat.reduceSub, layTup, obj1, splice, Bool.false_eq_true, if_true, if_false, Bool.not_true, Bool.not_false])))
    dsimp only [afterSeq]
    (with_reducible apply Vq.vseq)
    · repeat' (((first
      | (with_reducible exact Vq.runOps_nil)
      | ((with_reducible apply Vq.runOps_cons); (first | exact rfl))
      | ((with_reducible first | apply Vq.vret | apply Vq.vskip | apply Vq.vexit | apply Vq.vab0 | apply Vq.vab1 | apply Vq.vabr); exact rfl)
      | ((with_reducible apply Vq.vregion); case hr => exact rfl)
      | (with_reducible first | apply Vq.vseq | apply Vq.vblock)
      | ((with_reducible apply Vq.vcond); exact rfl; dsimp only [Vq.pickC])
      | ((with_reducible apply Vq.vabx); (· decide); exact rfl) | dsimp only [Vq.afterSeq]); (try simp only [z1, z2, z3, z4, z5, z6, z7, z8, z9, z10, z11, z12, z13, z14, z15, z16, z17, z18, V.withLeaves, V.borrow, freeze1, borrows, borrow1, V.leaves, V.nextg, Nat.reduceAdd, Nat.reduceSub, layTup, obj1, splice, Bool.false_eq_true, if_true, if_false, Bool.not_true, Bool.not_false])))
    dsimp only [afterSeq]
    (with_reducible apply Vq.vseq)
    · (with_reducible apply vblock)
      · exact loop36 G 9 m n [] _ h0 (by omega) hn (by simp) (by omega) rfl
      · apply vabkx (τ := st36 (lst 9 n) ([] ++ pre 9 n)) rfl
        exact rfl
    dsimp only [afterSeq]
    unfold st36
    repeat' (((first
      | (with_reducible exact Vq.runOps_nil)
      | ((with_reducible apply Vq.runOps_cons); (first | exact rfl | (apply Vq.run_asks; (· simp); (try simp only [List.take_length, List.drop_zero]); apply Vq.run_if trivial; unfold Vq.sHome; simp only [Vq.Prog.run]; apply Vq.run_asks; (· exact Nat.zero_lt_one); apply Vq.run_asks; (· exact ⟨trivial, by (have := pre_len 9 n; simp; omega)⟩); exact rfl) | (apply Vq.run_asks; (· exact rfl); apply Vq.run_asks; (· exact ⟨rfl, by (have := pre_len 9 n; simp; omega)⟩); exact rfl) | (apply Vq.run_asks; (· exact ⟨rfl, by (have := pre_len 9 n; simp; omega)⟩); exact rfl)))
      | ((with_reducible first | apply Vq.vret | apply Vq.vskip | apply Vq.vexit | apply Vq.vab0 | apply Vq.vab1 | apply Vq.vabr); exact rfl)
      | ((with_reducible apply Vq.vregion); case hr => exact rfl)
      | (with_reducible first | apply Vq.vseq | apply Vq.vblock)
      | ((with_reducible apply Vq.vcond); exact rfl; dsimp only [Vq.pickC])
      | ((with_reducible apply Vq.vabx); (· decide); exact rfl) | dsimp only [Vq.afterSeq]); (try simp only [z1, z2, z3, z4, z5, z6, z7, z8, z9, z10, z11, z12, z13, z14, z15, z16, z17, z18, V.withLeaves, V.borrow, freeze1, borrows, borrow1, V.leaves, V.nextg, Nat.reduceAdd, Nat.reduceSub, layTup, obj1, splice, Bool.false_eq_true, if_true, if_false, Bool.not_true, Bool.not_false, List.take_length])))
  · exact .inr rfl
  · first | exact rfl | (apply Vq.vfin; (· apply Vq.run_asks; (· simp); (try simp only [List.take_length, List.drop_zero]); (first | apply Vq.run_if trivial | apply Vq.run_if rfl); unfold Vq.sHome; simp only [Vq.Prog.run]; apply Vq.run_asks; (· exact Nat.zero_lt_one); exact rfl); (· exact rfl); (· exact rfl); (· decide); (· exact rfl); (· exact rfl))
/-! ### packhorseref06.Text -/
theorem noslice_dgs (ns : List Int) : ∀ x ∈ dgs ns, x.noslice = true := fun x hx => dgs_noslice ns x (by simpa using hx)
theorem noslice_dg (n : Int) : ∀ x ∈ dg n, x.noslice = true := fun x hx => noslice_dgs [n] x (by simpa [dgs] using hx)
def tx (s : List UInt8) : List V := dg (s.length : Int) ++ bytesV s
theorem wrap_u64 (n : Nat) (h : n < 18446744073709551616) : IntKind.u64.wrap (n : Int) = n := by
  simp only [IntKind.wrap, IntKind.bits, IntKind.signed]; simp; omega
theorem text37 (G : VProg) (hG : G 37 = some (.code v37)) (h36 : ∀ n m, 0 ≤ n → n < 18446744073709551616 → 12 ≤ m → call G m 36 [.int .u64 n] [] = some (.xsl 0 1 (dg n), [])) (s : List UInt8) (hs : s.length ≤ 1000) (m : Nat) (hm : 13 ≤ m) :
    call G m 37 [.str s] [] = some (.xsl 0 1 (tx s), []) := by
  obtain ⟨m, rfl⟩ : ∃ k, m = k + 1 := ⟨m - 1, by omega⟩
  have hw : IntKind.u64.wrap (s.length : Int) = s.length := wrap_u64 _ (by omega)
  have hns := noslice_dg s.length
  apply call_code (o := .ret) hG ⟨rfl, by decide⟩
  · change step (call G m) (itersOf G) (exec G m) 0 b37 _ = _
    (try simp only [Vq.start, List.length_cons, List.length_nil, List.map_cons, List.map_nil, List.cons_append, List.nil_append, List.replicate_succ, List.replicate_zero, Nat.reduceAdd, Nat.reduceSub, v37])
    unfold b37
    (with_reducible apply Vq.vseq)
    · repeat' (((first
      | (with_reducible exact Vq.runOps_nil)
      | ((with_reducible apply Vq.runOps_cons); (first | exact rfl))
      | ((with_reducible first | apply Vq.vret | apply Vq.vskip | apply Vq.vexit | apply Vq.vab0 | apply Vq.vab1 | apply Vq.vabr); exact rfl)
      | ((with_reducible apply Vq.vregion); case hr => exact rfl)
      | (with_reducible first | apply Vq.vseq | apply Vq.vblock)
      | ((with_reducible apply Vq.vcond); exact rfl; dsimp only [Vq.pickC])
      | ((with_reducible apply Vq.vabx); (· decide); exact rfl) | dsimp only [Vq.afterSeq]); (try simp only [z1, z2, z3, z4, z5, z6, z7, z8, z9, z10, z11, z12, z13, z14, z15, z16, z17, z18, V.withLeaves, V.borrow, freeze1, borrows, borrow1, V.leaves, V.nextg, Nat.reduceAdd, Nat.reduceSub, layTup, obj1, splice, Bool.false_eq_true, if_true, if_false, Bool.not_true, Bool.not_false])))
    dsimp only [afterSeq]
    (with_reducible apply Vq.vseq)
    · (with_reducible apply Vq.vregion); case hr => exact rfl
      repeat' (((first
      | (with_reducible exact Vq.runOps_nil)
      | ((with_reducible apply Vq.runOps_cons); (first | exact rfl | (apply Vq.vcallA; exact rfl; exact fun _ => rfl; exact rfl; (first | exact h36 _ _ (by omega) (by omega) (by omega)); (first | exact rfl | (simp [Vq.V.apart, Vq.V.leaves, Vq.V.noslice]; done) | (simp [Vq.V.apart, Vq.V.leaves, Vq.V.noslice]; assumption)); exact rfl) | (apply Vq.run_asks; (· simp); (try simp only [List.take_length, List.drop_zero]); apply Vq.run_if trivial; unfold Vq.sHome; simp only [Vq.Prog.run]; apply Vq.run_asks; (· exact Nat.zero_lt_one); apply Vq.run_asks; (· exact ⟨trivial, by (have := dg_len s.length; simp [bytesV]; omega)⟩); exact rfl) | (apply Vq.run_asks; (· exact rfl); apply Vq.run_asks; (· exact ⟨rfl, by (have := dg_len s.length; simp [bytesV]; omega)⟩); exact rfl) | (apply Vq.run_asks; (· exact ⟨rfl, by (have := dg_len s.length; simp [bytesV]; omega)⟩); exact rfl)))
      | ((with_reducible first | apply Vq.vret | apply Vq.vskip | apply Vq.vexit | apply Vq.vab0 | apply Vq.vab1 | apply Vq.vabr); exact rfl)
      | ((with_reducible apply Vq.vregion); case hr => exact rfl)
      | (with_reducible first | apply Vq.vseq | apply Vq.vblock)
      | ((with_reducible apply Vq.vcond); exact rfl; dsimp only [Vq.pickC])
      | ((with_reducible apply Vq.vabx); (· decide); exact rfl) | dsimp only [Vq.afterSeq]); (try simp only [z1, z2, z3, z4, z5, z6, z7, z8, z9, z10, z11, z12, z13, z14, z15, z16, z17, z18, V.withLeaves, V.borrow, freeze1, borrows, borrow1, V.leaves, V.nextg, Nat.reduceAdd, Nat.reduceSub, layTup, obj1, splice, Bool.false_eq_true, if_true, if_false, Bool.not_true, Bool.not_false, hw, List.take_length])))
    dsimp only [afterSeq]
    repeat' (((first
      | (with_reducible exact Vq.runOps_nil)
      | ((with_reducible apply Vq.runOps_cons); (first | exact rfl))
      | ((with_reducible first | apply Vq.vret | apply Vq.vskip | apply Vq.vexit | apply Vq.vab0 | apply Vq.vab1 | apply Vq.vabr); exact rfl)
      | ((with_reducible apply Vq.vregion); case hr => exact rfl)
      | (with_reducible first | apply Vq.vseq | apply Vq.vblock)
      | ((with_reducible apply Vq.vcond); exact rfl; dsimp only [Vq.pickC])
      | ((with_reducible apply Vq.vabx); (· decide); exact rfl) | dsimp only [Vq.afterSeq]); (try simp only [z1, z2, z3, z4, z5, z6, z7, z8, z9, z10, z11, z12, z13, z14, z15, z16, z17, z18, V.withLeaves, V.borrow, freeze1, borrows, borrow1, V.leaves, V.nextg, Nat.reduceAdd, Nat.reduceSub, layTup, obj1, splice, Bool.false_eq_true, if_true, if_false, Bool.not_true, Bool.not_false])))
  · exact .inr rfl
  · unfold tx
    first | exact rfl | (apply Vq.vfin; (· apply Vq.run_asks; (· simp); (try simp only [List.take_length, List.drop_zero]); (first | apply Vq.run_if trivial | apply Vq.run_if rfl); unfold Vq.sHome; simp only [Vq.Prog.run]; apply Vq.run_asks; (· exact Nat.zero_lt_one); exact rfl); (· exact rfl); (· exact rfl); (· decide); (· exact rfl); (· exact rfl))
theorem wrap_i64 (n : Nat) (h : n < 9223372036854775808) : IntKind.i64.wrap (n : Int) = n := by
  simp only [IntKind.wrap, IntKind.bits, IntKind.signed]; simp; omega
theorem inc_i64 (i : Nat) (h : i < 9223372036854775807) : IntKind.i64.wrap ((i : Int) + 1) = ((i + 1 : Nat) : Int) := wrap_i64 (i + 1) (by omega)
theorem noslice_app {a b : List V} (ha : ∀ x ∈ a, x.noslice = true) (hb : ∀ x ∈ b, x.noslice = true) : ∀ x ∈ a ++ b, x.noslice = true := by
  intro x hx
  rcases List.mem_append.1 hx with hx | hx
  · exact ha x hx
  · exact hb x hx
theorem dgs_len : ∀ (ns : List Int), (dgs ns).length ≤ 10 * ns.length
  | [] => by simp [dgs]
  | n :: ns => by have := dgs_len ns; have := dg_len n; simp only [dgs, List.flatMap_cons, List.length_append, List.length_cons] at *; omega
end S5
end Go.Vq

