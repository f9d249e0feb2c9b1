/- The V-level machine, run on values that are not known (no law of Go is stated here). -/
import Derived.Test.YtigbpkocmklbpaaC4
set_option linter.unusedVariables false
set_option linter.unusedSimpArgs false
set_option linter.unusedSectionVars false
namespace Go.Vq
namespace S15
open Go S2 S3 S4 S5 S6 S7 S8 S9 S10 S11 S12 S13 S14
set_option maxRecDepth 1000000
/-- packhorse/packhorselaw06.PacketFrames -/
def b8 : VCode :=
  .seq
    (.region [{ dst := (some 2), op := .box 0 2 (.tmp 0), guard := none, before := 0 },
      { dst := (some 4), op := .assign (.val (.bool false)), guard := none, before := 0 }] false)
    (.seq
      (.seq
        (.region [{ dst := (some 12), op := .call true 31 1 [], guard := none, before := 0 },
          { dst := (some 13), op := .un (.not) (.tmp 12), guard := none, before := 1 }] false)
        (.cond (.tmp 13)
          (.seq
            (.region [{ dst := (some 4), op := .assign (.val (.bool false)), guard := none, before := 0 }] false)
            (.ret))
          (.skip)))
      (.seq
        (.seq
          (.region [{ dst := (some 14), op := .fieldAddr 1 (.tmp 2), guard := none, before := 0 },
            { dst := (some 15), op := .load false 1 (.tmp 14), guard := none, before := 1 },
            { dst := (some 16), op := .len (.slc 1) (.tmp 15), guard := none, before := 3 },
            { dst := (some 17), op := .bin (.gtr) (.tmp 16) (.val (.int .i64 3000)), guard := none, before := 7 },
            { dst := (some 18), op := .move (.tmp 17), guard := none, before := 15 },
            { dst := (some 19), op := .move (.tmp 1), guard := (some (18, false)), before := 31 },
            { dst := (some 20), op := .len (.slc 1) (.tmp 19), guard := (some (18, false)), before := 63 },
            { dst := (some 21), op := .bin (.gtr) (.tmp 20) (.val (.int .i64 100)), guard := (some (18, false)), before := 127 },
            { dst := (some 22), op := .pick (.tmp 18) (.val (.bool true)) (.tmp 21), guard := none, before := 255 }] false)
          (.cond (.tmp 22)
            (.seq
              (.region [{ dst := (some 4), op := .assign (.val (.bool true)), guard := none, before := 0 }] false)
              (.ret))
            (.skip)))
        (.seq
          (.region [{ dst := (some 24), op := .load true 2 (.tmp 2), guard := none, before := 0 },
            { dst := (some 25), op := .call true 32 1 [(.tmp 24)], guard := none, before := 1 },
            { dst := (some 23), op := .move (.tmp 25), guard := none, before := 3 },
            { dst := (some 26), op := .extract (.tmp 23) 0, guard := none, before := 7 },
            { dst := (some 27), op := .extract (.tmp 23) 1, guard := none, before := 7 },
            { dst := (some 5), op := .assign (.tmp 26), guard := none, before := 15 },
            { dst := (some 6), op := .assign (.tmp 27), guard := none, before := 63 }] false)
          (.seq
            (.region [{ dst := (some 29), op := .load true 2 (.tmp 2), guard := none, before := 0 },
              { dst := (some 30), op := .call true 33 1 [(.tmp 29)], guard := none, before := 1 },
              { dst := (some 28), op := .move (.tmp 30), guard := none, before := 3 },
              { dst := (some 31), op := .extract (.tmp 28) 0, guard := none, before := 7 },
              { dst := (some 32), op := .extract (.tmp 28) 1, guard := none, before := 7 },
              { dst := (some 7), op := .assign (.tmp 31), guard := none, before := 15 },
              { dst := (some 8), op := .assign (.tmp 32), guard := none, before := 63 }] false)
            (.seq
              (.seq
                (.region [{ dst := (some 33), op := .move (.tmp 5), guard := none, before := 0 },
                  { dst := (some 34), op := .conv (.text) (.tmp 33), guard := none, before := 1 },
                  { dst := (some 35), op := .move (.tmp 7), guard := none, before := 0 },
                  { dst := (some 36), op := .conv (.text) (.tmp 35), guard := none, before := 4 },
                  { dst := (some 37), op := .eq true (.num) (.tmp 34) (.tmp 36), guard := none, before := 15 },
                  { dst := (some 38), op := .move (.tmp 37), guard := none, before := 31 },
                  { dst := (some 39), op := .move (.tmp 6), guard := (some (38, false)), before := 63 },
                  { dst := (some 40), op := .move (.tmp 8), guard := (some (38, false)), before := 63 },
                  { dst := (some 41), op := .eq true (.num) (.tmp 39) (.tmp 40), guard := (some (38, false)), before := 255 },
                  { dst := (some 42), op := .pick (.tmp 38) (.val (.bool true)) (.tmp 41), guard := none, before := 511 }] false)
                (.cond (.tmp 42)
                  (.seq
                    (.region [{ dst := (some 4), op := .assign (.val (.bool false)), guard := none, before := 0 }] false)
                    (.ret))
                  (.skip)))
              (.seq
                (.region [{ dst := (some 44), op := .buildSlice 1 [] [], guard := none, before := 0 },
                  { dst := (some 45), op := .move (.tmp 5), guard := none, before := 0 },
                  { dst := (some 46), op := .append 1 1 (.tmp 44) (.tmp 45), guard := none, before := 3 },
                  { dst := (some 47), op := .move (.tmp 1), guard := none, before := 0 },
                  { dst := (some 48), op := .append 1 1 (.tmp 46) (.tmp 47), guard := none, before := 15 },
                  { dst := (some 49), op := .call true 34 1 [(.tmp 48)], guard := none, before := 31 },
                  { dst := (some 43), op := .move (.tmp 49), guard := none, before := 63 },
                  { dst := (some 50), op := .extract (.tmp 43) 0, guard := none, before := 127 },
                  { dst := (some 51), op := .extract (.tmp 43) 1, guard := none, before := 127 },
                  { dst := (some 52), op := .extract (.tmp 43) 2, guard := none, before := 127 },
                  { dst := (some 9), op := .alloc 1 [(.int .u8 0), (.xsl 0 1 [])], guard := none, before := 0 },
                  { dst := none, op := .store 2 (.tmp 9) (.tmp 50), guard := none, before := 1279 },
                  { dst := (some 10), op := .assign (.tmp 51), guard := none, before := 3583 },
                  { dst := (some 11), op := .assign (.tmp 52), guard := none, before := 8191 }] false)
                (.seq
                  (.region [{ dst := (some 53), op := .move (.tmp 11), guard := none, before := 0 },
                    { dst := (some 54), op := .eq false (.num) (.tmp 53) (.val (.int .i64 0)), guard := none, before := 1 },
                    { dst := (some 55), op := .move (.tmp 54), guard := none, before := 3 },
                    { dst := (some 56), op := .move (.tmp 10), guard := (some (55, true)), before := 7 },
                    { dst := (some 57), op := .move (.tmp 5), guard := (some (55, true)), before := 7 },
                    { dst := (some 58), op := .len (.slc 1) (.tmp 57), guard := (some (55, true)), before := 23 },
                    { dst := (some 59), op := .eq false (.num) (.tmp 56) (.tmp 58), guard := (some (55, true)), before := 63 },
                    { dst := (some 60), op := .pick (.tmp 55) (.tmp 59) (.val (.bool false)), guard := none, before := 127 },
                    { dst := (some 61), op := .move (.tmp 60), guard := none, before := 255 },
                    { dst := (some 62), op := .fieldAddr 0 (.tmp 9), guard := (some (61, true)), before := 511 },
                    { dst := (some 63), op := .load false 1 (.tmp 62), guard := (some (61, true)), before := 1023 },
                    { dst := (some 64), op := .fieldAddr 0 (.tmp 2), guard := (some (61, true)), before := 511 },
                    { dst := (some 65), op := .load false 1 (.tmp 64), guard := (some (61, true)), before := 2559 },
                    { dst := (some 66), op := .eq false (.num) (.tmp 63) (.tmp 65), guard := (some (61, true)), before := 8191 },
                    { dst := (some 67), op := .pick (.tmp 61) (.tmp 66) (.val (.bool false)), guard := none, before := 16383 },
                    { dst := (some 68), op := .move (.tmp 67), guard := none, before := 32767 },
                    { dst := (some 69), op := .fieldAddr 1 (.tmp 9), guard := (some (68, true)), before := 65535 },
                    { dst := (some 70), op := .load false 1 (.tmp 69), guard := (some (68, true)), before := 131071 },
                    { dst := (some 71), op := .conv (.text) (.tmp 70), guard := (some (68, true)), before := 262143 },
                    { dst := (some 72), op := .fieldAddr 1 (.tmp 2), guard := (some (68, true)), before := 65535 },
                    { dst := (some 73), op := .load false 1 (.tmp 72), guard := (some (68, true)), before := 589823 },
                    { dst := (some 74), op := .conv (.text) (.tmp 73), guard := (some (68, true)), before := 1638399 },
                    { dst := (some 75), op := .eq false (.num) (.tmp 71) (.tmp 74), guard := (some (68, true)), before := 4194303 },
                    { dst := (some 76), op := .pick (.tmp 68) (.tmp 75) (.val (.bool false)), guard := none, before := 8388607 },
                    { dst := (some 4), op := .assign (.tmp 76), guard := none, before := 16777215 }] false)
                  (.ret))))))))
def v8 : VFunc := { nparams := 2, ntmps := 77, nsites := 2, results := [.tmp 4], body := b8 }

/-! ### a frame's bytes, read -/
theorem dec_enc (N : Nat) (hN : N < 16384) (r : List Nat) : dec 65536 0 0 (enc 9 N ++ r) = ((N : Int), (((enc 9 N).length : Nat) : Int)) := by
  have e1 : ∀ k M, M < 128 → enc (k + 1) M = [M] := fun k M h => by unfold enc; rw [if_neg (by omega)]
  by_cases h : N < 128
  · rw [e1 8 N h, List.singleton_append, dec_cons, if_neg (by omega), if_pos h]
    simp
    omega
  · have e2 : enc 9 N = [128 + N % 128, N / 128] := by
      show enc (8 + 1) N = _
      unfold enc
      rw [if_pos (by omega), e1 7 _ (by omega)]
    rw [e2]
    simp only [List.cons_append, List.nil_append, List.length_cons, List.length_nil]
    have h1 : (128 + N % 128) % 128 = N % 128 := by omega
    have h2 : N / 128 % 128 = N / 128 := by omega
    rw [dec_cons, if_neg (by rw [h1]; omega), if_neg (by omega), if_neg (by rw [h1]; omega), dec_cons, if_neg (by rw [h1, h2]; omega), if_pos (by omega), h1, h2]
    simp
    omega
theorem frm_length (k : Nat) (bl : List Nat) : (frm k bl).length = 3 + (enc 9 bl.length).length + bl.length := by simp [frm]; omega
theorem enc_pos (N : Nat) : 0 < (enc 9 N).length := by
  show 0 < (enc (8 + 1) N).length
  unfold enc
  split <;> simp
theorem apartF {es : List V} (h : ∀ x ∈ es, x.noslice = true) (k : IntKind) (n : Int) : (V.tup [.fsl 0 1 es, .int k n]).apart = true := by
  simp only [V.apart, V.leaves, List.flatMap_cons, V.cells, List.flatMap_nil, List.append_nil, List.cons_append, List.nil_append, List.all_cons, List.all_nil, V.noslice, Bool.and_true]
  exact List.all_eq_true.2 h
theorem apartX {es : List V} (h : ∀ x ∈ es, x.noslice = true) (k : IntKind) (n : Int) : (V.tup [.xsl 0 1 es, .int k n]).apart = true := by
  simp only [V.apart, V.leaves, List.flatMap_cons, V.cells, List.flatMap_nil, List.append_nil, List.cons_append, List.nil_append, List.all_cons, List.all_nil, V.noslice, Bool.and_true]
  exact List.all_eq_true.2 h
theorem apartO {es : List V} (h : ∀ x ∈ es, x.noslice = true) (k k1 k2 : IntKind) (n n1 n2 : Int) : (V.tup [.agg [.int k n, .xsl 0 1 es], .int k1 n1, .int k2 n2]).apart = true := by
  simp only [V.apart, V.leaves, List.flatMap_cons, V.cells, List.flatMap_nil, List.append_nil, List.cons_append, List.nil_append, List.all_cons, List.all_nil, V.noslice, Bool.and_true, Bool.true_and]
  exact List.all_eq_true.2 h
section
variable {cal : Callee} {σ τ : St} {base : Nat}
theorem vappS {d : Option Nat} {a x y bf g g' : Nat} {es xs : List V} (hx : σ.slot x = .srf (.slot y 0) g' 1 0 xs.length) (hy : σ.slot y = .fsl g' 1 xs) (ha : σ.slot a = .xsl g 1 es) (hb : (es.length + xs.length) * 1 ≤ 140737488355328) (hp : (drain (.tmp a) (putO d (.xsl 0 1 (es ++ xs)) .ret)).run σ = some τ) :
    (VOper.prog cal base ⟨d, .append 1 1 (.tmp a) (.tmp x), none, bf⟩).run σ = some τ := by
  have e : List.take xs.length (List.drop 0 xs) = xs := by simp
  simp only [VOper.prog, opProg, gOpd, Prog.run, hx, gView, gElems, gHome, hy, V.leaves, List.getElem?_cons_zero, and_self, if_true, Nat.zero_add, Nat.le_refl, e, ha, true_and, if_pos hb]
  exact hp
theorem vtextO {d : Option Nat} {x o off bf g : Nat} {es cs : List V} {s : List UInt8} (hx : σ.slot x = .srf (.obj o off) g 1 0 es.length) (ho : σ.obj o = some (.cells cs)) (hy : cs[off]? = some (.xsl g 1 es)) (ht : textV es = some s) (hp : (putO d (.str s) .ret).run σ = some τ) :
    (VOper.prog cal base ⟨d, .conv .text (.tmp x), none, bf⟩).run σ = some τ := by
  have e : List.take es.length (List.drop 0 es) = es := by simp
  simp only [VOper.prog, opProg, gOpd, Prog.run, hx, gView, optV, gElems, gHome, ho, hy, and_self, if_true, Nat.zero_add, Nat.le_refl, e, ht]
  exact hp
theorem vtextF {d : Option Nat} {x y bf g : Nat} {es : List V} {s : List UInt8} (hx : σ.slot x = .srf (.slot y 0) g 1 0 es.length) (hy : σ.slot y = .fsl g 1 es) (ht : textV es = some s) (hp : (putO d (.str s) .ret).run σ = some τ) :
    (VOper.prog cal base ⟨d, .conv .text (.tmp x), none, bf⟩).run σ = some τ := by
  have e : List.take es.length (List.drop 0 es) = es := by simp
  simp only [VOper.prog, opProg, gOpd, Prog.run, hx, gView, optV, gElems, gHome, hy, V.leaves, List.getElem?_cons_zero, and_self, if_true, Nat.zero_add, Nat.le_refl, e, ht]
  exact hp
end
section
variable (G : VProg) (hG : G 8 = some (.code v8)) (M : Nat) (h31 : ∀ m, M ≤ m → call G m 31 [] [] = some (.bool true, []))
include hG h31
theorem long1 (k : Nat) (B H : List V) (g1 : decide ((B.length : Int) > 3000) = true) (m : Nat) (hm : M + 60 ≤ m) :
    call G m 8 [.agg [.int .u8 k, .isl 0 1 B], .isl 0 1 H] [] = some (.bool true, []) := by
  obtain ⟨m, rfl⟩ : ∃ k, m = k + 1 := ⟨m - 1, by omega⟩
  apply call_code (o := .ret) hG ⟨rfl, by decide⟩
  · change step (call G m) (itersOf G) (exec G m) 0 b8 _ = _
    (try simp only [Vq.start, List.length_cons, List.length_nil, List.map_cons, List.map_nil, List.cons_append, List.nil_append, List.replicate_succ, List.replicate_zero, Nat.reduceAdd, Nat.reduceSub, v8])
    unfold b8
    (with_reducible apply Vq.vseq)
    · repeat' (((first
      | (with_reducible exact Vq.runOps_nil)
      | ((with_reducible apply Vq.runOps_cons); (first | exact rfl))
      | ((with_reducible first | apply Vq.vret | apply Vq.vskip | apply Vq.vexit | apply Vq.vab0 | apply Vq.vab1 | apply Vq.vabr); exact rfl)
      | ((with_reducible apply Vq.vregion); case hr => exact rfl)
      | (with_reducible first | apply Vq.vseq | apply Vq.vblock)
      | ((with_reducible apply Vq.vcond); exact rfl; dsimp only [Vq.pickC])
      | ((with_reducible apply Vq.vabx); (· decide); exact rfl) | dsimp only [Vq.afterSeq]); (try simp only [z1, z2, z3, z4, z5, z6, z7, z8, z9, z10, z11, z12, z13, z14, z15, z16, z17, z18, V.withLeaves, V.borrow, freeze1, borrows, borrow1, V.leaves, V.nextg, Nat.reduceAdd, Nat.reduceSub, layTup, obj1, splice, Bool.false_eq_true, if_true, if_false, Bool.not_true, Bool.not_false])))
    dsimp only [afterSeq]
    (with_reducible apply Vq.vseq)
    · repeat' (((first
      | (with_reducible exact Vq.runOps_nil)
      | ((with_reducible apply Vq.runOps_cons); (first | exact rfl | (apply Vq.vcallA; exact rfl; exact fun _ => rfl; exact rfl; (first | exact h31 _ (by omega)); (first | exact rfl | (simp [Vq.V.apart, Vq.V.leaves, Vq.V.noslice]; done) | (simp [Vq.V.apart, Vq.V.leaves, Vq.V.noslice]; assumption)); exact rfl)))
      | ((with_reducible first | apply Vq.vret | apply Vq.vskip | apply Vq.vexit | apply Vq.vab0 | apply Vq.vab1 | apply Vq.vabr); exact rfl)
      | ((with_reducible apply Vq.vregion); case hr => exact rfl)
      | (with_reducible first | apply Vq.vseq | apply Vq.vblock)
      | ((with_reducible apply Vq.vcond); exact rfl; dsimp only [Vq.pickC])
      | ((with_reducible apply Vq.vabx); (· decide); exact rfl) | dsimp only [Vq.afterSeq]); (try simp only [z1, z2, z3, z4, z5, z6, z7, z8, z9, z10, z11, z12, z13, z14, z15, z16, z17, z18, V.withLeaves, V.borrow, freeze1, borrows, borrow1, V.leaves, V.nextg, Nat.reduceAdd, Nat.reduceSub, layTup, obj1, splice, Bool.false_eq_true, if_true, if_false, Bool.not_true, Bool.not_false])))
    dsimp only [afterSeq]
    repeat' (((first
      | (with_reducible exact Vq.runOps_nil)
      | ((with_reducible apply Vq.runOps_cons); (first | exact rfl))
      | ((with_reducible first | apply Vq.vret | apply Vq.vskip | apply Vq.vexit | apply Vq.vab0 | apply Vq.vab1 | apply Vq.vabr); exact rfl)
      | ((with_reducible apply Vq.vregion); case hr => exact rfl)
      | (with_reducible first | apply Vq.vseq | apply Vq.vblock)
      | ((with_reducible apply Vq.vcond); exact rfl; dsimp only [Vq.pickC])
      | ((with_reducible apply Vq.vabx); (· decide); exact rfl) | dsimp only [Vq.afterSeq]); (try simp only [z1, z2, z3, z4, z5, z6, z7, z8, z9, z10, z11, z12, z13, z14, z15, z16, z17, z18, V.withLeaves, V.borrow, freeze1, borrows, borrow1, V.leaves, V.nextg, Nat.reduceAdd, Nat.reduceSub, layTup, obj1, splice, Bool.false_eq_true, if_true, if_false, Bool.not_true, Bool.not_false, g1])))
  · exact .inr rfl
  · first | exact rfl | (apply Vq.vfin; (· apply Vq.run_asks; (· simp); (try simp only [List.take_length, List.drop_zero]); (first | apply Vq.run_if trivial | apply Vq.run_if rfl); unfold Vq.sHome; simp only [Vq.Prog.run]; apply Vq.run_asks; (· exact Nat.zero_lt_one); exact rfl); (· exact rfl); (· exact rfl); (· decide); (· exact rfl); (· exact rfl))
theorem long2 (k : Nat) (B H : List V) (g1 : decide ((B.length : Int) > 3000) = false) (g2 : decide ((H.length : Int) > 100) = true) (m : Nat) (hm : M + 60 ≤ m) :
    call G m 8 [.agg [.int .u8 k, .isl 0 1 B], .isl 0 1 H] [] = some (.bool true, []) := by
  obtain ⟨m, rfl⟩ : ∃ k, m = k + 1 := ⟨m - 1, by omega⟩
  apply call_code (o := .ret) hG ⟨rfl, by decide⟩
  · change step (call G m) (itersOf G) (exec G m) 0 b8 _ = _
    (try simp only [Vq.start, List.length_cons, List.length_nil, List.map_cons, List.map_nil, List.cons_append, List.nil_append, List.replicate_succ, List.replicate_zero, Nat.reduceAdd, Nat.reduceSub, v8])
    unfold b8
    (with_reducible apply Vq.vseq)
    · repeat' (((first
      | (with_reducible exact Vq.runOps_nil)
      | ((with_reducible apply Vq.runOps_cons); (first | exact rfl))
      | ((with_reducible first | apply Vq.vret | apply Vq.vskip | apply Vq.vexit | apply Vq.vab0 | apply Vq.vab1 | apply Vq.vabr); exact rfl)
      | ((with_reducible apply Vq.vregion); case hr => exact rfl)
      | (with_reducible first | apply Vq.vseq | apply Vq.vblock)
      | ((with_reducible apply Vq.vcond); exact rfl; dsimp only [Vq.pickC])
      | ((with_reducible apply Vq.vabx); (· decide); exact rfl) | dsimp only [Vq.afterSeq]); (try simp only [z1, z2, z3, z4, z5, z6, z7, z8, z9, z10, z11, z12, z13, z14, z15, z16, z17, z18, V.withLeaves, V.borrow, freeze1, borrows, borrow1, V.leaves, V.nextg, Nat.reduceAdd, Nat.reduceSub, layTup, obj1, splice, Bool.false_eq_true, if_true, if_false, Bool.not_true, Bool.not_false])))
    dsimp only [afterSeq]
    (with_reducible apply Vq.vseq)
    · repeat' (((first
      | (with_reducible exact Vq.runOps_nil)
      | ((with_reducible apply Vq.runOps_cons); (first | exact rfl | (apply Vq.vcallA; exact rfl; exact fun _ => rfl; exact rfl; (first | exact h31 _ (by omega)); (first | exact rfl | (simp [Vq.V.apart, Vq.V.leaves, Vq.V.noslice]; done) | (simp [Vq.V.apart, Vq.V.leaves, Vq.V.noslice]; assumption)); exact rfl)))
      | ((with_reducible first | apply Vq.vret | apply Vq.vskip | apply Vq.vexit | apply Vq.vab0 | apply Vq.vab1 | apply Vq.vabr); exact rfl)
      | ((with_reducible apply Vq.vregion); case hr => exact rfl)
      | (with_reducible first | apply Vq.vseq | apply Vq.vblock)
      | ((with_reducible apply Vq.vcond); exact rfl; dsimp only [Vq.pickC])
      | ((with_reducible apply Vq.vabx); (· decide); exact rfl) | dsimp only [Vq.afterSeq]); (try simp only [z1, z2, z3, z4, z5, z6, z7, z8, z9, z10, z11, z12, z13, z14, z15, z16, z17, z18, V.withLeaves, V.borrow, freeze1, borrows, borrow1, V.leaves, V.nextg, Nat.reduceAdd, Nat.reduceSub, layTup, obj1, splice, Bool.false_eq_true, if_true, if_false, Bool.not_true, Bool.not_false])))
    dsimp only [afterSeq]
    repeat' (((first
      | (with_reducible exact Vq.runOps_nil)
      | ((with_reducible apply Vq.runOps_cons); (first | exact rfl))
      | ((with_reducible first | apply Vq.vret | apply Vq.vskip | apply Vq.vexit | apply Vq.vab0 | apply Vq.vab1 | apply Vq.vabr); exact rfl)
      | ((with_reducible apply Vq.vregion); case hr => exact rfl)
      | (with_reducible first | apply Vq.vseq | apply Vq.vblock)
      | ((with_reducible apply Vq.vcond); exact rfl; dsimp only [Vq.pickC])
      | ((with_reducible apply Vq.vabx); (· decide); exact rfl) | dsimp only [Vq.afterSeq]); (try simp only [z1, z2, z3, z4, z5, z6, z7, z8, z9, z10, z11, z12, z13, z14, z15, z16, z17, z18, V.withLeaves, V.borrow, freeze1, borrows, borrow1, V.leaves, V.nextg, Nat.reduceAdd, Nat.reduceSub, layTup, obj1, splice, Bool.false_eq_true, if_true, if_false, Bool.not_true, Bool.not_false, g1, g2])))
  · exact .inr rfl
  · first | exact rfl | (apply Vq.vfin; (· apply Vq.run_asks; (· simp); (try simp only [List.take_length, List.drop_zero]); (first | apply Vq.run_if trivial | apply Vq.run_if rfl); unfold Vq.sHome; simp only [Vq.Prog.run]; apply Vq.run_asks; (· exact Nat.zero_lt_one); exact rfl); (· exact rfl); (· exact rfl); (· decide); (· exact rfl); (· exact rfl))
theorem main8 (h32 : ∀ (k : Nat) (bl : List Nat) (m : Nat), k < 256 → (∀ x ∈ bl, x < 256) → bl.length ≤ 65536 → bl.length + 40 ≤ m → call G m 32 [.agg [.int .u8 k, .isl 0 1 (byN bl)]] [] = some (.tup [.fsl 0 1 (byN (full k bl)), .int .i64 0], []))
    (h33 : ∀ (k : Nat) (bl : List Nat) (m : Nat), k < 256 → (∀ x ∈ bl, x < 256) → bl.length ≤ 65536 → bl.length + 40 ≤ m → call G m 33 [.agg [.int .u8 k, .isl 0 1 (byN bl)]] [] = some (.tup [.xsl 0 1 (byN (full k bl)), .int .i64 0], []))
    (k : Nat) (bl bh : List Nat) (hk : k < 256) (hb : ∀ x ∈ bl, x < 256) (hh : ∀ x ∈ bh, x < 256) (g1 : decide (((byN bl).length : Int) > 3000) = false) (g2 : decide (((byN bh).length : Int) > 100) = false)
    (h34 : ∀ m, 4000 ≤ m → call G m 34 [.isl 0 1 (byN (full k bl ++ bh))] [] = some (.tup [.agg [.int .u8 k, .xsl 0 1 (byN bl)], .int .i64 (full k bl).length, .int .i64 0], []))
    (T TB : List UInt8) (hT : textV (byN (full k bl)) = some T) (hTB : textV (byN bl) = some TB) (m : Nat) (hm : M + 4060 ≤ m) :
    call G m 8 [.agg [.int .u8 k, .isl 0 1 (byN bl)], .isl 0 1 (byN bh)] [] = some (.bool true, []) := by
  obtain ⟨m, rfl⟩ : ∃ k, m = k + 1 := ⟨m - 1, by omega⟩
  have hbl : bl.length ≤ 3000 := by have := of_decide_eq_false g1; rw [byN_len] at this; omega
  have hbh : bh.length ≤ 100 := by have := of_decide_eq_false g2; rw [byN_len] at this; omega
  have hf := byN_noslice (full k bl)
  have q32 := h32 k bl m hk hb (by omega) (by omega)
  have q33 := h33 k bl m hk hb (by omega) (by omega)
  have q34 := h34 m (by omega)
  rw [byN_app] at q34
  have hlen : (((full k bl).length : Int) == ((byN (full k bl)).length : Int)) = true := by rw [byN_len]; exact beq_self_eq_true _
  have hnb := byN_noslice bl
  have hel := enc_len 9 bl.length
  have hfull : (full k bl).length = 7 + (enc 9 bl.length).length + bl.length := by simp [full, frm_length, four]; omega
  apply call_code (o := .ret) hG ⟨rfl, by decide⟩
  · change step (call G m) (itersOf G) (exec G m) 0 b8 _ = _
    (try simp only [Vq.start, List.length_cons, List.length_nil, List.map_cons, List.map_nil, List.cons_append, List.nil_append, List.replicate_succ, List.replicate_zero, Nat.reduceAdd, Nat.reduceSub, v8])
    unfold b8
    (with_reducible apply Vq.vseq)
    · repeat' (((first
      | (with_reducible exact Vq.runOps_nil)
      | ((with_reducible apply Vq.runOps_cons); (first | exact rfl))
      | ((with_reducible first | apply Vq.vret | apply Vq.vskip | apply Vq.vexit | apply Vq.vab0 | apply Vq.vab1 | apply Vq.vabr); exact rfl)
      | ((with_reducible apply Vq.vregion); case hr => exact rfl)
      | (with_reducible first | apply Vq.vseq | apply Vq.vblock)
      | ((with_reducible apply Vq.vcond); exact rfl; dsimp only [Vq.pickC])
      | ((with_reducible apply Vq.vabx); (· decide); exact rfl) | dsimp only [Vq.afterSeq]); (try simp only [z1, z2, z3, z4, z5, z6, z7, z8, z9, z10, z11, z12, z13, z14, z15, z16, z17, z18, V.withLeaves, V.borrow, freeze1, borrows, borrow1, V.leaves, V.nextg, Nat.reduceAdd, Nat.reduceSub, layTup, obj1, splice, Bool.false_eq_true, if_true, if_false, Bool.not_true, Bool.not_false])))
    dsimp only [afterSeq]
    (with_reducible apply Vq.vseq)
    · repeat' (((first
      | (with_reducible exact Vq.runOps_nil)
      | ((with_reducible apply Vq.runOps_cons); (first | exact rfl | (apply Vq.vcallA; exact rfl; exact fun _ => rfl; exact rfl; (first | exact h31 _ (by omega)); (first | exact rfl | (simp [Vq.V.apart, Vq.V.leaves, Vq.V.noslice]; done) | (simp [Vq.V.apart, Vq.V.leaves, Vq.V.noslice]; assumption)); exact rfl)))
      | ((with_reducible first | apply Vq.vret | apply Vq.vskip | apply Vq.vexit | apply Vq.vab0 | apply Vq.vab1 | apply Vq.vabr); exact rfl)
      | ((with_reducible apply Vq.vregion); case hr => exact rfl)
      | (with_reducible first | apply Vq.vseq | apply Vq.vblock)
      | ((with_reducible apply Vq.vcond); exact rfl; dsimp only [Vq.pickC])
      | ((with_reducible apply Vq.vabx); (· decide); exact rfl) | dsimp only [Vq.afterSeq]); (try simp only [z1, z2, z3, z4, z5, z6, z7, z8, z9, z10, z11, z12, z13, z14, z15, z16, z17, z18, V.withLeaves, V.borrow, freeze1, borrows, borrow1, V.leaves, V.nextg, Nat.reduceAdd, Nat.reduceSub, layTup, obj1, splice, Bool.false_eq_true, if_true, if_false, Bool.not_true, Bool.not_false])))
    dsimp only [afterSeq]
    (with_reducible apply Vq.vseq)
    · repeat' (((first
      | (with_reducible exact Vq.runOps_nil)
      | ((with_reducible apply Vq.runOps_cons); (first | exact rfl))
      | ((with_reducible first | apply Vq.vret | apply Vq.vskip | apply Vq.vexit | apply Vq.vab0 | apply Vq.vab1 | apply Vq.vabr); exact rfl)
      | ((with_reducible apply Vq.vregion); case hr => exact rfl)
      | (with_reducible first | apply Vq.vseq | apply Vq.vblock)
      | ((with_reducible apply Vq.vcond); exact rfl; dsimp only [Vq.pickC])
      | ((with_reducible apply Vq.vabx); (· decide); exact rfl) | dsimp only [Vq.afterSeq]); (try simp only [z1, z2, z3, z4, z5, z6, z7, z8, z9, z10, z11, z12, z13, z14, z15, z16, z17, z18, V.withLeaves, V.borrow, freeze1, borrows, borrow1, V.leaves, V.nextg, Nat.reduceAdd, Nat.reduceSub, layTup, obj1, splice, Bool.false_eq_true, if_true, if_false, Bool.not_true, Bool.not_false, g1, g2])))
    dsimp only [afterSeq]
    (with_reducible apply Vq.vseq)
    · (with_reducible apply Vq.vregion); case hr => exact rfl
      ((with_reducible apply Vq.runOps_cons); exact rfl; (try simp only [z1, z2, z3, z4, z5, z6, z7, z8, z9, z10, z11, z12, z13, z14, z15, z16, z17, z18, V.withLeaves, V.borrow, freeze1, borrows, borrow1, V.leaves, V.nextg, Nat.reduceAdd, Nat.reduceSub, layTup, obj1, splice, Bool.false_eq_true, if_true, if_false, Bool.not_true, Bool.not_false]))
      (with_reducible apply Vq.runOps_cons)
      · apply vcallA rfl (fun _ => rfl) rfl q32 (apartF hf _ _)
        exact rfl
      (try simp only [z1, z2, z3, z4, z5, z6, z7, z8, z9, z10, z11, z12, z13, z14, z15, z16, z17, z18, V.withLeaves, V.borrow, freeze1, borrows, borrow1, V.leaves, V.nextg, Nat.reduceAdd, Nat.reduceSub, layTup, obj1, splice, Bool.false_eq_true, if_true, if_false, Bool.not_true, Bool.not_false])
      repeat' (((first
      | (with_reducible exact Vq.runOps_nil)
      | ((with_reducible apply Vq.runOps_cons); (first | exact rfl))
      | ((with_reducible first | apply Vq.vret | apply Vq.vskip | apply Vq.vexit | apply Vq.vab0 | apply Vq.vab1 | apply Vq.vabr); exact rfl)
      | ((with_reducible apply Vq.vregion); case hr => exact rfl)
      | (with_reducible first | apply Vq.vseq | apply Vq.vblock)
      | ((with_reducible apply Vq.vcond); exact rfl; dsimp only [Vq.pickC])
      | ((with_reducible apply Vq.vabx); (· decide); exact rfl) | dsimp only [Vq.afterSeq]); (try simp only [z1, z2, z3, z4, z5, z6, z7, z8, z9, z10, z11, z12, z13, z14, z15, z16, z17, z18, V.withLeaves, V.borrow, freeze1, borrows, borrow1, V.leaves, V.nextg, Nat.reduceAdd, Nat.reduceSub, layTup, obj1, splice, Bool.false_eq_true, if_true, if_false, Bool.not_true, Bool.not_false])))
    dsimp only [afterSeq]
    (with_reducible apply Vq.vseq)
    · (with_reducible apply Vq.vregion); case hr => exact rfl
      ((with_reducible apply Vq.runOps_cons); exact rfl; (try simp only [z1, z2, z3, z4, z5, z6, z7, z8, z9, z10, z11, z12, z13, z14, z15, z16, z17, z18, V.withLeaves, V.borrow, freeze1, borrows, borrow1, V.leaves, V.nextg, Nat.reduceAdd, Nat.reduceSub, layTup, obj1, splice, Bool.false_eq_true, if_true, if_false, Bool.not_true, Bool.not_false]))
      (with_reducible apply Vq.runOps_cons)
      · apply vcallA rfl (fun _ => rfl) rfl q33 (apartX hf _ _)
        exact rfl
      (try simp only [z1, z2, z3, z4, z5, z6, z7, z8, z9, z10, z11, z12, z13, z14, z15, z16, z17, z18, V.withLeaves, V.borrow, freeze1, borrows, borrow1, V.leaves, V.nextg, Nat.reduceAdd, Nat.reduceSub, layTup, obj1, splice, Bool.false_eq_true, if_true, if_false, Bool.not_true, Bool.not_false])
      repeat' (((first
      | (with_reducible exact Vq.runOps_nil)
      | ((with_reducible apply Vq.runOps_cons); (first | exact rfl))
      | ((with_reducible first | apply Vq.vret | apply Vq.vskip | apply Vq.vexit | apply Vq.vab0 | apply Vq.vab1 | apply Vq.vabr); exact rfl)
      | ((with_reducible apply Vq.vregion); case hr => exact rfl)
      | (with_reducible first | apply Vq.vseq | apply Vq.vblock)
      | ((with_reducible apply Vq.vcond); exact rfl; dsimp only [Vq.pickC])
      | ((with_reducible apply Vq.vabx); (· decide); exact rfl) | dsimp only [Vq.afterSeq]); (try simp only [z1, z2, z3, z4, z5, z6, z7, z8, z9, z10, z11, z12, z13, z14, z15, z16, z17, z18, V.withLeaves, V.borrow, freeze1, borrows, borrow1, V.leaves, V.nextg, Nat.reduceAdd, Nat.reduceSub, layTup, obj1, splice, Bool.false_eq_true, if_true, if_false, Bool.not_true, Bool.not_false])))
    dsimp only [afterSeq]
    (with_reducible apply Vq.vseq)
    · (with_reducible apply Vq.vseq)
      · (with_reducible apply Vq.vregion); case hr => exact rfl
        ((with_reducible apply Vq.runOps_cons); exact rfl; (try simp only [z1, z2, z3, z4, z5, z6, z7, z8, z9, z10, z11, z12, z13, z14, z15, z16, z17, z18, V.withLeaves, V.borrow, freeze1, borrows, borrow1, V.leaves, V.nextg, Nat.reduceAdd, Nat.reduceSub, layTup, obj1, splice, Bool.false_eq_true, if_true, if_false, Bool.not_true, Bool.not_false]))
        (with_reducible apply Vq.runOps_cons)
        · apply vtextF (y := 5) (es := byN (full k bl)) rfl rfl hT
          exact rfl
        (try simp only [z1, z2, z3, z4, z5, z6, z7, z8, z9, z10, z11, z12, z13, z14, z15, z16, z17, z18, V.withLeaves, V.borrow, freeze1, borrows, borrow1, V.leaves, V.nextg, Nat.reduceAdd, Nat.reduceSub, layTup, obj1, splice, Bool.false_eq_true, if_true, if_false, Bool.not_true, Bool.not_false])
        ((with_reducible apply Vq.runOps_cons); exact rfl; (try simp only [z1, z2, z3, z4, z5, z6, z7, z8, z9, z10, z11, z12, z13, z14, z15, z16, z17, z18, V.withLeaves, V.borrow, freeze1, borrows, borrow1, V.leaves, V.nextg, Nat.reduceAdd, Nat.reduceSub, layTup, obj1, splice, Bool.false_eq_true, if_true, if_false, Bool.not_true, Bool.not_false]))
        (with_reducible apply Vq.runOps_cons)
        · apply vtextR (y := 7) (es := byN (full k bl)) rfl rfl hT
          exact rfl
        (try simp only [z1, z2, z3, z4, z5, z6, z7, z8, z9, z10, z11, z12, z13, z14, z15, z16, z17, z18, V.withLeaves, V.borrow, freeze1, borrows, borrow1, V.leaves, V.nextg, Nat.reduceAdd, Nat.reduceSub, layTup, obj1, splice, Bool.false_eq_true, if_true, if_false, Bool.not_true, Bool.not_false])
        repeat' (((first
      | (with_reducible exact Vq.runOps_nil)
      | ((with_reducible apply Vq.runOps_cons); (first | exact rfl))
      | ((with_reducible first | apply Vq.vret | apply Vq.vskip | apply Vq.vexit | apply Vq.vab0 | apply Vq.vab1 | apply Vq.vabr); exact rfl)
      | ((with_reducible apply Vq.vregion); case hr => exact rfl)
      | (with_reducible first | apply Vq.vseq | apply Vq.vblock)
      | ((with_reducible apply Vq.vcond); exact rfl; dsimp only [Vq.pickC])
      | ((with_reducible apply Vq.vabx); (· decide); exact rfl) | dsimp only [Vq.afterSeq]); (try simp only [z1, z2, z3, z4, z5, z6, z7, z8, z9, z10, z11, z12, z13, z14, z15, z16, z17, z18, V.withLeaves, V.borrow, freeze1, borrows, borrow1, V.leaves, V.nextg, Nat.reduceAdd, Nat.reduceSub, layTup, obj1, splice, Bool.false_eq_true, if_true, if_false, Bool.not_true, Bool.not_false, beq_self_eq_true, Bool.not_true, show ((0 : Int) == 0) = true from rfl])))
      dsimp only [afterSeq]
      repeat' (((first
      | (with_reducible exact Vq.runOps_nil)
      | ((with_reducible apply Vq.runOps_cons); (first | exact rfl))
      | ((with_reducible first | apply Vq.vret | apply Vq.vskip | apply Vq.vexit | apply Vq.vab0 | apply Vq.vab1 | apply Vq.vabr); exact rfl)
      | ((with_reducible apply Vq.vregion); case hr => exact rfl)
      | (with_reducible first | apply Vq.vseq | apply Vq.vblock)
      | ((with_reducible apply Vq.vcond); exact rfl; dsimp only [Vq.pickC])
      | ((with_reducible apply Vq.vabx); (· decide); exact rfl) | dsimp only [Vq.afterSeq]); (try simp only [z1, z2, z3, z4, z5, z6, z7, z8, z9, z10, z11, z12, z13, z14, z15, z16, z17, z18, V.withLeaves, V.borrow, freeze1, borrows, borrow1, V.leaves, V.nextg, Nat.reduceAdd, Nat.reduceSub, layTup, obj1, splice, Bool.false_eq_true, if_true, if_false, Bool.not_true, Bool.not_false])))
    dsimp only [afterSeq]
    (with_reducible apply Vq.vseq)
    · (with_reducible apply Vq.vregion); case hr => exact rfl
      ((with_reducible apply Vq.runOps_cons); exact rfl; (try simp only [z1, z2, z3, z4, z5, z6, z7, z8, z9, z10, z11, z12, z13, z14, z15, z16, z17, z18, V.withLeaves, V.borrow, freeze1, borrows, borrow1, V.leaves, V.nextg, Nat.reduceAdd, Nat.reduceSub, layTup, obj1, splice, Bool.false_eq_true, if_true, if_false, Bool.not_true, Bool.not_false]); (with_reducible apply Vq.runOps_cons); exact rfl; (try simp only [z1, z2, z3, z4, z5, z6, z7, z8, z9, z10, z11, z12, z13, z14, z15, z16, z17, z18, V.withLeaves, V.borrow, freeze1, borrows, borrow1, V.leaves, V.nextg, Nat.reduceAdd, Nat.reduceSub, layTup, obj1, splice, Bool.false_eq_true, if_true, if_false, Bool.not_true, Bool.not_false]))
      (with_reducible apply Vq.runOps_cons)
      · apply vappS (y := 5) (xs := byN (full k bl)) rfl rfl rfl (by simp [byN_len]; omega)
        exact rfl
      (try simp only [z1, z2, z3, z4, z5, z6, z7, z8, z9, z10, z11, z12, z13, z14, z15, z16, z17, z18, V.withLeaves, V.borrow, freeze1, borrows, borrow1, V.leaves, V.nextg, Nat.reduceAdd, Nat.reduceSub, layTup, obj1, splice, Bool.false_eq_true, if_true, if_false, Bool.not_true, Bool.not_false])
      ((with_reducible apply Vq.runOps_cons); exact rfl; (try simp only [z1, z2, z3, z4, z5, z6, z7, z8, z9, z10, z11, z12, z13, z14, z15, z16, z17, z18, V.withLeaves, V.borrow, freeze1, borrows, borrow1, V.leaves, V.nextg, Nat.reduceAdd, Nat.reduceSub, layTup, obj1, splice, Bool.false_eq_true, if_true, if_false, Bool.not_true, Bool.not_false]))
      (with_reducible apply Vq.runOps_cons)
      · apply vapp (.isl 0 rfl) rfl (by simp [byN_len]; omega)
        exact rfl
      (try simp only [z1, z2, z3, z4, z5, z6, z7, z8, z9, z10, z11, z12, z13, z14, z15, z16, z17, z18, V.withLeaves, V.borrow, freeze1, borrows, borrow1, V.leaves, V.nextg, Nat.reduceAdd, Nat.reduceSub, layTup, obj1, splice, Bool.false_eq_true, if_true, if_false, Bool.not_true, Bool.not_false])
      (with_reducible apply Vq.runOps_cons)
      · apply vcallA rfl (fun _ => rfl) rfl q34 (apartO hnb _ _ _ _ _ _)
        exact rfl
      (try simp only [z1, z2, z3, z4, z5, z6, z7, z8, z9, z10, z11, z12, z13, z14, z15, z16, z17, z18, V.withLeaves, V.borrow, freeze1, borrows, borrow1, V.leaves, V.nextg, Nat.reduceAdd, Nat.reduceSub, layTup, obj1, splice, Bool.false_eq_true, if_true, if_false, Bool.not_true, Bool.not_false])
      repeat' (((first
      | (with_reducible exact Vq.runOps_nil)
      | ((with_reducible apply Vq.runOps_cons); (first | exact rfl))
      | ((with_reducible first | apply Vq.vret | apply Vq.vskip | apply Vq.vexit | apply Vq.vab0 | apply Vq.vab1 | apply Vq.vabr); exact rfl)
      | ((with_reducible apply Vq.vregion); case hr => exact rfl)
      | (with_reducible first | apply Vq.vseq | apply Vq.vblock)
      | ((with_reducible apply Vq.vcond); exact rfl; dsimp only [Vq.pickC])
      | ((with_reducible apply Vq.vabx); (· decide); exact rfl) | dsimp only [Vq.afterSeq]); (try simp only [z1, z2, z3, z4, z5, z6, z7, z8, z9, z10, z11, z12, z13, z14, z15, z16, z17, z18, V.withLeaves, V.borrow, freeze1, borrows, borrow1, V.leaves, V.nextg, Nat.reduceAdd, Nat.reduceSub, layTup, obj1, splice, Bool.false_eq_true, if_true, if_false, Bool.not_true, Bool.not_false])))
    dsimp only [afterSeq]
    (with_reducible apply Vq.vseq)
    · (with_reducible apply Vq.vregion); case hr => exact rfl
      repeat' (((first
      | (with_reducible exact Vq.runOps_nil)
      | ((with_reducible apply Vq.runOps_cons); (first | exact rfl))
      | ((with_reducible first | apply Vq.vret | apply Vq.vskip | apply Vq.vexit | apply Vq.vab0 | apply Vq.vab1 | apply Vq.vabr); exact rfl)
      | ((with_reducible apply Vq.vregion); case hr => exact rfl)
      | (with_reducible first | apply Vq.vseq | apply Vq.vblock)
      | ((with_reducible apply Vq.vcond); exact rfl; dsimp only [Vq.pickC])
      | ((with_reducible apply Vq.vabx); (· decide); exact rfl) | dsimp only [Vq.afterSeq]); (try simp only [z1, z2, z3, z4, z5, z6, z7, z8, z9, z10, z11, z12, z13, z14, z15, z16, z17, z18, V.withLeaves, V.borrow, freeze1, borrows, borrow1, V.leaves, V.nextg, Nat.reduceAdd, Nat.reduceSub, layTup, obj1, splice, Bool.false_eq_true, if_true, if_false, Bool.not_true, Bool.not_false, beq_self_eq_true, hlen, show ((0 : Int) == 0) = true from rfl])))
      (with_reducible apply Vq.runOps_cons)
      · apply vguard rfl
        apply vtextO (es := byN bl) rfl rfl rfl hTB
        exact rfl
      (try simp only [z1, z2, z3, z4, z5, z6, z7, z8, z9, z10, z11, z12, z13, z14, z15, z16, z17, z18, V.withLeaves, V.borrow, freeze1, borrows, borrow1, V.leaves, V.nextg, Nat.reduceAdd, Nat.reduceSub, layTup, obj1, splice, Bool.false_eq_true, if_true, if_false, Bool.not_true, Bool.not_false])
      ((with_reducible apply Vq.runOps_cons); exact rfl; (try simp only [z1, z2, z3, z4, z5, z6, z7, z8, z9, z10, z11, z12, z13, z14, z15, z16, z17, z18, V.withLeaves, V.borrow, freeze1, borrows, borrow1, V.leaves, V.nextg, Nat.reduceAdd, Nat.reduceSub, layTup, obj1, splice, Bool.false_eq_true, if_true, if_false, Bool.not_true, Bool.not_false]); (with_reducible apply Vq.runOps_cons); exact rfl; (try simp only [z1, z2, z3, z4, z5, z6, z7, z8, z9, z10, z11, z12, z13, z14, z15, z16, z17, z18, V.withLeaves, V.borrow, freeze1, borrows, borrow1, V.leaves, V.nextg, Nat.reduceAdd, Nat.reduceSub, layTup, obj1, splice, Bool.false_eq_true, if_true, if_false, Bool.not_true, Bool.not_false]))
      (with_reducible apply Vq.runOps_cons)
      · apply vguard rfl
        apply vtextI (es := byN bl) rfl hTB
        exact rfl
      (try simp only [z1, z2, z3, z4, z5, z6, z7, z8, z9, z10, z11, z12, z13, z14, z15, z16, z17, z18, V.withLeaves, V.borrow, freeze1, borrows, borrow1, V.leaves, V.nextg, Nat.reduceAdd, Nat.reduceSub, layTup, obj1, splice, Bool.false_eq_true, if_true, if_false, Bool.not_true, Bool.not_false])
      repeat' (((first
      | (with_reducible exact Vq.runOps_nil)
      | ((with_reducible apply Vq.runOps_cons); (first | exact rfl))
      | ((with_reducible first | apply Vq.vret | apply Vq.vskip | apply Vq.vexit | apply Vq.vab0 | apply Vq.vab1 | apply Vq.vabr); exact rfl)
      | ((with_reducible apply Vq.vregion); case hr => exact rfl)
      | (with_reducible first | apply Vq.vseq | apply Vq.vblock)
      | ((with_reducible apply Vq.vcond); exact rfl; dsimp only [Vq.pickC])
      | ((with_reducible apply Vq.vabx); (· decide); exact rfl) | dsimp only [Vq.afterSeq]); (try simp only [z1, z2, z3, z4, z5, z6, z7, z8, z9, z10, z11, z12, z13, z14, z15, z16, z17, z18, V.withLeaves, V.borrow, freeze1, borrows, borrow1, V.leaves, V.nextg, Nat.reduceAdd, Nat.reduceSub, layTup, obj1, splice, Bool.false_eq_true, if_true, if_false, Bool.not_true, Bool.not_false, beq_self_eq_true])))
    dsimp only [afterSeq]
    repeat' (((first
      | (with_reducible exact Vq.runOps_nil)
      | ((with_reducible apply Vq.runOps_cons); (first | exact rfl))
      | ((with_reducible first | apply Vq.vret | apply Vq.vskip | apply Vq.vexit | apply Vq.vab0 | apply Vq.vab1 | apply Vq.vabr); exact rfl)
      | ((with_reducible apply Vq.vregion); case hr => exact rfl)
      | (with_reducible first | apply Vq.vseq | apply Vq.vblock)
      | ((with_reducible apply Vq.vcond); exact rfl; dsimp only [Vq.pickC])
      | ((with_reducible apply Vq.vabx); (· decide); exact rfl) | dsimp only [Vq.afterSeq]); (try simp only [z1, z2, z3, z4, z5, z6, z7, z8, z9, z10, z11, z12, z13, z14, z15, z16, z17, z18, V.withLeaves, V.borrow, freeze1, borrows, borrow1, V.leaves, V.nextg, Nat.reduceAdd, Nat.reduceSub, layTup, obj1, splice, Bool.false_eq_true, if_true, if_false, Bool.not_true, Bool.not_false])))
  · exact .inr rfl
  · first | exact rfl | (apply Vq.vfin; (· apply Vq.run_asks; (· simp); (try simp only [List.take_length, List.drop_zero]); (first | apply Vq.run_if trivial | apply Vq.run_if rfl); unfold Vq.sHome; simp only [Vq.Prog.run]; apply Vq.run_asks; (· exact Nat.zero_lt_one); exact rfl); (· exact rfl); (· exact rfl); (· decide); (· exact rfl); (· exact rfl))
end
end S15
end Go.Vq

namespace Go.Vq
namespace S16
open Go S2 S3 S4 S5 S6 S7 S8 S9 S10 S11 S12 S13 S14 S15
theorem isB_byN (l : List Nat) : ∀ x ∈ byN l, isB x := by
  intro x hx
  obtain ⟨n, _, rfl⟩ := List.mem_map.1 hx
  exact ⟨n, rfl⟩
theorem four_get (c i : Nat) (hi : i < 4) (r : List Nat) : (four c ++ r)[i]? = some (c / 2 ^ (8 * i) % 256) := by
  match i, hi with
  | 0, _ => simp [four]
  | 1, _ => simp [four]
  | 2, _ => simp [four]
  | 3, _ => simp [four]
theorem opens (G : VProg) (hG : G 34 = some (.code S11.v34)) (h52 : H52 G) (h49 : H49 G) (h53 : H53 G) (k : Nat) (bl bh : List Nat) (hk : k < 256) (hb : ∀ x ∈ bl, x < 256) (hh : ∀ x ∈ bh, x < 256) (hl : bl.length ≤ 16000) (hl2 : bh.length < 2 ^ 39) (m : Nat) (hm : bl.length + bh.length + 80 ≤ m) :
    call G m 34 [.isl 0 1 (byN (full k bl ++ bh))] [] = some (.tup [.agg [.int .u8 k, .xsl 0 1 (byN bl)], .int .i64 (full k bl).length, .int .i64 0], []) := by
  have hel := enc_len 9 bl.length
  have hfl := frm_length k bl
  have hfull : (full k bl).length = 3 + (enc 9 bl.length).length + bl.length + 4 := by simp [full, frm_length, four]
  have hx : ∀ x ∈ full k bl ++ bh, x < 256 := by
    intro x hx
    simp only [full, List.mem_append] at hx
    rcases hx with (hx | hx) | hx
    · exact frm_lt k bl hk hb x hx
    · simp [four] at hx; omega
    · exact hh x hx
  have hdrop : (full k bl ++ bh).drop 3 = enc 9 bl.length ++ (bl ++ four (crc (frm k bl)) ++ bh) := by simp [full, frm]
  have htake : (full k bl ++ bh).take (3 + (enc 9 bl.length).length + bl.length) = frm k bl := by
    rw [← hfl, full, List.append_assoc, List.take_left']
    rfl
  have hbody : ((full k bl ++ bh).drop (3 + (enc 9 bl.length).length)).take bl.length = bl := by
    have e : full k bl ++ bh = ([167, 1, k] ++ enc 9 bl.length) ++ (bl ++ (four (crc (frm k bl)) ++ bh)) := by simp [full, frm]
    have e2 : 3 + (enc 9 bl.length).length = ([167, 1, k] ++ enc 9 bl.length).length := by simp; omega
    rw [e, e2, List.drop_left, List.take_left]
  have hnum := h52
  have := open34 G hG h52 h49 h53 (full k bl ++ bh) k bl.length (enc 9 bl.length).length (by rw [List.length_append, hfull]; omega) hx (by simp [full, frm]) (by simp [full, frm]) (by simp [full, frm])
    (by rw [hdrop]; exact dec_enc _ (by omega) _) (enc_pos _) (by rw [List.length_append, hfull]; omega)
    (fun i hi => by
      rw [htake, ← hfl, full, List.append_assoc, List.getElem?_append_right (by omega), Nat.add_sub_cancel_left]
      exact four_get _ i hi _) m (by rw [List.length_append, hfull]; omega)
  rw [this, hbody, hfull]
theorem all8 (G : VProg) (hG : G 8 = some (.code S15.v8)) (h31 : ∀ m, call G m 31 [] [] = some (.bool true, []))
    (g32 : G 32 = some (.code S8.v32)) (g33 : G 33 = some (.code S8.v33)) (g34 : G 34 = some (.code S11.v34)) (g35 : G 35 = some (.code S2.v35)) (g36 : G 36 = some (.code S5.v36)) (g49 : G 49 = some (.code S8.v49)) (g50 : G 50 = some (.code S8.v50)) (g51 : G 51 = some (.code S8.v51))
    (g52 : G 52 = some (.code S11.v52)) (g55 : G 55 = some (.code S8.v55)) (g56 : G 56 = some (.code S8.v56)) (h53 : H53 G) (k : Nat) (bl bh : List Nat) (hk : k < 256) (hb : ∀ x ∈ bl, x < 256) (hh : ∀ x ∈ bh, x < 256) (m : Nat) (hm : 5000 ≤ m) :
    call G m 8 [.agg [.int .u8 k, .isl 0 1 (byN bl)], .isl 0 1 (byN bh)] [] = some (.bool true, []) := by
  have h55 : ∀ (n m : Nat), n < 2 ^ 32 → 9 ≤ m → call G m 55 [.int .u32 n, .int .i64 8] [] = some (.int .u32 (halN 8 n : Nat), []) := fun n m a b => hal55 G g55 n a m b
  have h56 : ∀ (n m : Nat), n < 2 ^ 32 → 1 ≤ m → call G m 56 [.int .u64 n] [] = some (.int .u64 (stepN n : Nat), []) := fun n m a b => step56 G g56 n a m b
  have h49 : H49 G := fun l m a b c => of49 G g49 l a b h55 m c
  have h51 : H51 G := fun l m a b c => of51 G g51 l a b h56 m c
  have h50 : H50 G := fun c m a b => four50 G g50 c a m b
  have h36 : H36 G := fun n m a b c => num36 G g36 n a b m c
  have h52 : H52 G := fun l lim m a b c d => number52 G g52 l lim a b c m d
  have h35 : H35 G := fun n out m h0 hn hno hl hm => num35 G g35 (fun m es he => h53 m es he) [n] (by simpa using ⟨h0, hn⟩) out hno (by simp; omega) m (by simpa using hm)
  cases g1 : decide (((byN bl).length : Int) > 3000) with
  | true => exact long1 G hG 0 (fun m _ => h31 m) k _ _ g1 m (by omega)
  | false =>
  cases g2 : decide (((byN bh).length : Int) > 100) with
  | true => exact long2 G hG 0 (fun m _ => h31 m) k _ _ g1 g2 m (by omega)
  | false =>
  have g1' := of_decide_eq_false g1
  have g2' := of_decide_eq_false g2
  rw [byN_len] at g1' g2'
  obtain ⟨T, hT⟩ := textV_ex (isB_byN (full k bl))
  obtain ⟨TB, hTB⟩ := textV_ex (isB_byN bl)
  exact main8 G hG 0 (fun m _ => h31 m) (fun k bl m a b c d => frame32 G g32 h35 h49 k bl a b c m d) (fun k bl m a b c d => frame33 G g33 h36 h51 h50 k bl a b c m d) k bl bh hk hb hh g1 g2
    (fun m hm => opens G g34 h52 h49 h53 k bl bh hk hb hh (by omega) (by omega) m (by omega)) T TB hT hTB m (by omega)
/-- Bytes as they are read. -/
theorem bytes_nat (bs : List Int) (h : ∀ b ∈ bs, (Lit.int .u8 b).wf = true) : ∃ l : List Nat, bs.map (V.int .u8) = byN l ∧ ∀ x ∈ l, x < 256 := by
  have hr : ∀ b ∈ bs, 0 ≤ b ∧ b < 256 := fun b hb => by
    have := h b hb
    simp [Lit.wf, IntKind.min, IntKind.max, IntKind.signed, IntKind.bits] at this
    omega
  refine ⟨bs.map Int.toNat, ?_, fun x hx => ?_⟩
  · simp only [byN, List.map_map]
    refine List.map_congr_left fun b hb => ?_
    have := hr b hb
    simp only [Function.comp]
    congr 1
    omega
  · obtain ⟨b, hb, rfl⟩ := List.mem_map.1 hx
    have := hr b hb
    omega
end S16
end Go.Vq

