/- A machine of values and its tie to the model, and runs of it: part 19 of 18 (no law of Go is stated here). -/
import Derived.Test.YtbbpandancpibaaF18
set_option linter.unusedVariables false
set_option linter.unusedSimpArgs false
set_option linter.unusedSectionVars false
namespace Go.Vq
namespace P1
open Go
set_option maxRecDepth 1000000
set_option maxHeartbeats 8000000
abbrev b71 : VCode := .seq (.region [⟨some 2, .alloc 0 [(.int .u8 0), (.xsl 0 1 [])], none, 0⟩, ⟨some 3, .assign (.val (.int .i64 0)), none, 0⟩, ⟨some 4, .assign (.val (.int .i64 0)), none, 2⟩] false) (.seq (.seq (.region [⟨some 12, .build [(.int .u8 0), (.int .u8 0)] [(0, 1, (.val (.int .u8 167))), (1, 1, (.val (.int .u8 1)))], none, 0⟩, ⟨some 13, .move (.val (.int .i64 0)), none, 0⟩] false) (.block 0 (some [0, 2]) (.loop (some [0, 2, 12, 13]) (.seq (.region [⟨some 14, .bin (.lss) (.tmp 13) (.val (.int .i64 2)), none, 0⟩] false) (.seq (.cond (.tmp 14) (.skip) (.exit 0)) (.seq (.block 1 none (.seq (.region [⟨some 15, .move (.tmp 13), none, 0⟩, ⟨some 16, .indexArr 2 1 false (.tmp 12) (.tmp 13), none, 0⟩, ⟨some 5, .assign (.tmp 15), none, 3⟩, ⟨some 6, .assign (.tmp 16), none, 7⟩] false) (.seq (.region [⟨some 17, .move (.tmp 5), none, 0⟩, ⟨some 18, .move (.tmp 0), none, 0⟩, ⟨some 19, .len (.slc 1) (.tmp 18), none, 2⟩, ⟨some 20, .bin (.lss) (.tmp 17) (.tmp 19), none, 7⟩, ⟨some 21, .move (.tmp 20), none, 15⟩, ⟨some 22, .move (.tmp 0), some (21, true), 31⟩, ⟨some 23, .move (.tmp 5), some (21, true), 31⟩, ⟨some 24, .indexAddr none 1 (.tmp 22) (.tmp 23), some (21, true), 127⟩, ⟨some 25, .load false 1 (.tmp 24), some (21, true), 255⟩, ⟨some 26, .move (.tmp 6), some (21, true), 31⟩, ⟨some 27, .eq true (.num) (.tmp 25) (.tmp 26), some (21, true), 1023⟩, ⟨some 28, .pick (.tmp 21) (.tmp 27) (.val (.bool false)), none, 2047⟩] false) (.cond (.tmp 28) (.seq (.region [⟨some 29, .build [(.int .u8 0), (.nilS 1)] [], none, 0⟩, ⟨none, .store 2 (.tmp 2) (.tmp 29), none, 1⟩, ⟨some 3, .assign (.val (.int .i64 0)), none, 3⟩, ⟨some 4, .assign (.val (.int .i64 62)), none, 7⟩] false) (.ret)) (.skip))))) (.region [⟨some 30, .bin (.add) (.tmp 13) (.val (.int .i64 1)), none, 0⟩, ⟨some 13, .move (.tmp 30), none, 1⟩] false))))))) (.seq (.seq (.region [⟨some 31, .move (.tmp 0), none, 0⟩, ⟨some 32, .len (.slc 1) (.tmp 31), none, 1⟩, ⟨some 33, .bin (.lss) (.tmp 32) (.val (.int .i64 3)), none, 3⟩] false) (.cond (.tmp 33) (.seq (.region [⟨some 34, .build [(.int .u8 0), (.nilS 1)] [], none, 0⟩, ⟨none, .store 2 (.tmp 2) (.tmp 34), none, 1⟩, ⟨some 3, .assign (.val (.int .i64 0)), none, 3⟩, ⟨some 4, .assign (.val (.int .i64 61)), none, 7⟩] false) (.ret)) (.skip))) (.seq (.region [⟨some 36, .move (.tmp 0), none, 0⟩, ⟨some 37, .slice (.slc 1) (.tmp 36) (some (.val (.int .i64 3))) none none, none, 1⟩, ⟨some 38, .call true 82 1 [(.tmp 37), (.val (.int .u64 65536))], none, 3⟩, ⟨some 35, .move (.tmp 38), none, 7⟩, ⟨some 39, .extract (.tmp 35) 0, none, 15⟩, ⟨some 40, .extract (.tmp 35) 1, none, 15⟩, ⟨some 7, .assign (.tmp 39), none, 31⟩, ⟨some 8, .assign (.tmp 40), none, 127⟩] false) (.seq (.block 2 none (.seq (.region [⟨some 42, .move (.tmp 8), none, 0⟩, ⟨some 43, .bin (.lss) (.tmp 42) (.val (.int .i64 0)), none, 1⟩, ⟨some 41, .assign (.tmp 43), none, 3⟩] false) (.cond (.tmp 41) (.seq (.region [⟨some 44, .build [(.int .u8 0), (.nilS 1)] [], none, 0⟩, ⟨none, .store 2 (.tmp 2) (.tmp 44), none, 1⟩, ⟨some 3, .assign (.val (.int .i64 0)), none, 3⟩, ⟨some 4, .assign (.val (.int .i64 62)), none, 7⟩] false) (.ret)) (.seq (.region [⟨some 46, .move (.tmp 8), none, 0⟩, ⟨some 47, .eq false (.num) (.tmp 46) (.val (.int .i64 0)), none, 1⟩, ⟨some 45, .assign (.tmp 47), none, 3⟩] false) (.cond (.tmp 45) (.seq (.region [⟨some 48, .build [(.int .u8 0), (.nilS 1)] [], none, 0⟩, ⟨none, .store 2 (.tmp 2) (.tmp 48), none, 1⟩, ⟨some 3, .assign (.val (.int .i64 0)), none, 3⟩, ⟨some 4, .assign (.val (.int .i64 61)), none, 7⟩] false) (.ret)) (.skip)))))) (.seq (.region [⟨some 49, .move (.tmp 8), none, 0⟩, ⟨some 50, .bin (.add) (.val (.int .i64 3)) (.tmp 49), none, 1⟩, ⟨some 51, .move (.tmp 7), none, 0⟩, ⟨some 52, .conv (.int (.i64)) (.tmp 51), none, 4⟩, ⟨some 53, .bin (.add) (.tmp 50) (.tmp 52), none, 15⟩, ⟨some 9, .assign (.tmp 53), none, 31⟩] false) (.seq (.seq (.region [⟨some 54, .move (.tmp 0), none, 0⟩, ⟨some 55, .len (.slc 1) (.tmp 54), none, 1⟩, ⟨some 56, .move (.tmp 9), none, 0⟩, ⟨some 57, .bin (.lss) (.tmp 55) (.tmp 56), none, 7⟩] false) (.cond (.tmp 57) (.seq (.region [⟨some 58, .build [(.int .u8 0), (.nilS 1)] [], none, 0⟩, ⟨none, .store 2 (.tmp 2) (.tmp 58), none, 1⟩, ⟨some 3, .assign (.val (.int .i64 0)), none, 3⟩, ⟨some 4, .assign (.val (.int .i64 61)), none, 7⟩] false) (.ret)) (.skip))) (.seq (.region [⟨some 59, .move (.tmp 0), none, 0⟩, ⟨some 60, .move (.tmp 9), none, 0⟩, ⟨some 61, .slice (.slc 1) (.tmp 59) none (some (.tmp 60)) none, none, 3⟩, ⟨some 62, .buildSlice 1 [(.isl 0 1 [])] [(0, (.tmp 61))], none, 7⟩, ⟨some 63, .call true 74 1 [(.tmp 62)], none, 15⟩, ⟨some 10, .assign (.tmp 63), none, 31⟩] false) (.seq (.seq (.region [⟨some 64, .move (.val (.int .i64 0)), none, 0⟩] false) (.block 3 (some [0, 2, 8, 9, 40]) (.loop (some [0, 2, 8, 9, 10, 40, 64]) (.seq (.region [⟨some 65, .bin (.lss) (.tmp 64) (.val (.int .i64 4)), none, 0⟩] false) (.seq (.cond (.tmp 65) (.skip) (.exit 3)) (.seq (.block 4 none (.seq (.region [⟨some 66, .move (.tmp 64), none, 0⟩, ⟨some 11, .assign (.tmp 66), none, 1⟩] false) (.seq (.seq (.region [⟨some 67, .move (.tmp 9), none, 0⟩, ⟨some 68, .move (.tmp 11), none, 0⟩, ⟨some 69, .bin (.add) (.tmp 67) (.tmp 68), none, 3⟩, ⟨some 70, .move (.tmp 0), none, 0⟩, ⟨some 71, .len (.slc 1) (.tmp 70), none, 8⟩, ⟨some 72, .bin (.geq) (.tmp 69) (.tmp 71), none, 31⟩] false) (.cond (.tmp 72) (.seq (.region [⟨some 73, .build [(.int .u8 0), (.nilS 1)] [], none, 0⟩, ⟨none, .store 2 (.tmp 2) (.tmp 73), none, 1⟩, ⟨some 3, .assign (.val (.int .i64 0)), none, 3⟩, ⟨some 4, .assign (.val (.int .i64 61)), none, 7⟩] false) (.ret)) (.skip))) (.seq (.region [⟨some 74, .move (.tmp 0), none, 0⟩, ⟨some 75, .move (.tmp 9), none, 0⟩, ⟨some 76, .move (.tmp 11), none, 0⟩, ⟨some 77, .bin (.add) (.tmp 75) (.tmp 76), none, 6⟩, ⟨some 78, .indexAddr none 1 (.tmp 74) (.tmp 77), none, 15⟩, ⟨some 79, .load false 1 (.tmp 78), none, 31⟩, ⟨some 80, .move (.tmp 10), none, 0⟩, ⟨some 81, .move (.tmp 11), none, 0⟩, ⟨some 82, .bin (.mul) (.val (.int .i64 8)) (.tmp 81), none, 128⟩, ⟨some 83, .bin (.shr) (.tmp 80) (.tmp 82), none, 448⟩, ⟨some 84, .conv (.int (.u8)) (.tmp 83), none, 960⟩, ⟨some 85, .eq true (.num) (.tmp 79) (.tmp 84), none, 2047⟩] true) (.cond (.tmp 85) (.seq (.region [⟨some 86, .build [(.int .u8 0), (.nilS 1)] [], none, 0⟩, ⟨none, .store 2 (.tmp 2) (.tmp 86), none, 1⟩, ⟨some 3, .assign (.val (.int .i64 0)), none, 3⟩, ⟨some 4, .assign (.val (.int .i64 62)), none, 7⟩] false) (.ret)) (.skip)))))) (.region [⟨some 87, .bin (.add) (.tmp 64) (.val (.int .i64 1)), none, 0⟩, ⟨some 64, .move (.tmp 87), none, 1⟩] false))))))) (.seq (.region [⟨some 88, .move (.tmp 0), none, 0⟩, ⟨some 89, .indexAddr none 1 (.tmp 88) (.val (.int .i64 2)), none, 1⟩, ⟨some 90, .load false 1 (.tmp 89), none, 3⟩, ⟨some 91, .move (.tmp 0), none, 0⟩, ⟨some 92, .move (.tmp 8), none, 0⟩, ⟨some 93, .bin (.add) (.val (.int .i64 3)) (.tmp 92), none, 16⟩, ⟨some 94, .move (.tmp 9), none, 0⟩, ⟨some 95, .slice (.slc 1) (.tmp 91) (some (.tmp 93)) (some (.tmp 94)) none, none, 120⟩, ⟨some 96, .call true 51 1 [(.tmp 95)], none, 248⟩, ⟨some 97, .build [(.int .u8 0), (.nilS 1)] [(0, 1, (.tmp 90)), (1, 1, (.tmp 96))], none, 511⟩, ⟨some 98, .move (.tmp 9), none, 0⟩, ⟨some 99, .bin (.add) (.tmp 98) (.val (.int .i64 4)), none, 1024⟩, ⟨none, .store 2 (.tmp 2) (.tmp 97), none, 1023⟩, ⟨some 3, .assign (.tmp 99), none, 8191⟩, ⟨some 4, .assign (.val (.int .i64 0)), none, 16383⟩] true) (.ret))))))))))
abbrev v71 : VFunc := { nparams := 1, ntmps := 100, nsites := 1, results := [.cell 2 true 2, .tmp 3, .tmp 4], body := b71 }
theorem dec_cases' (lim : Nat) : ∀ (l : List Nat) (i n : Nat), dec lim i n l = (0, -1) ∨ dec lim i n l = (0, 0) ∨ ∃ N u : Nat, dec lim i n l = ((N : Int), (u : Int)) ∧ i < u ∧ u ≤ i + l.length ∧ N ≤ lim
  | [], i, n => .inr (.inl rfl)
  | x :: l, i, n => by
    rw [dec_cons]
    split
    · exact .inl rfl
    · rename_i h
      split
      · exact .inr (.inr ⟨_, _, rfl, by omega, by simp only [List.length_cons]; omega, by omega⟩)
      · split
        · exact .inl rfl
        · rcases dec_cases' lim l (i + 1) (n + x % 128 * 2 ^ (7 * i)) with h | h | ⟨N, u, h, h1, h2, h3⟩
          · exact .inl h
          · exact .inr (.inl h)
          · exact .inr (.inr ⟨N, u, h, by omega, by simp only [List.length_cons]; omega, h3⟩)
def tailN : List Nat → List Nat → Nat
  | _, [] => 0
  | [], _ :: _ => 61
  | x :: r, y :: s => if x = y then tailN r s else 62
def openN (b : List Nat) : (Nat × List Nat) × Nat × Nat :=
  if (∃ h : 0 < b.length, b[0] ≠ 167) ∨ (∃ h : 1 < b.length, b[1] ≠ 1) then ((0, []), 0, 62) else
  if b.length < 3 then ((0, []), 0, 61) else
  let d := dec 65536 0 0 (b.drop 3)
  if d.2 < 0 then ((0, []), 0, 62) else if d.2 = 0 then ((0, []), 0, 61) else
  let e := 3 + d.2.toNat + d.1.toNat
  if b.length < e then ((0, []), 0, 61) else
  let t := tailN (b.drop e) (fourN (crc (b.take e)))
  if t ≠ 0 then ((0, []), 0, t) else ((b.getD 2 0, (b.drop (3 + d.2.toNat)).take d.1.toNat), e + 4, 0)
abbrev openV (r : (Nat × List Nat) × Nat × Nat) : V := .tup [.agg [.int .u8 (r.1.1 : Int), .xsl 0 1 (byN r.1.2)], .int .i64 (r.2.1 : Int), .int .i64 (r.2.2 : Int)]
section
variable (G : VProg)
theorem Open (hG : G 71 = some (.code v71))
    (hn : ∀ (l : List Nat), l.length < 2 ^ 40 → (∀ x ∈ l, x < 256) → Vq.lim G 82 [.isl 0 1 (byN l), .int .u64 65536] [] = some (.tup [.int .u64 (dec 65536 0 0 l).1, .int .i64 (dec 65536 0 0 l).2], []))
    (hO : ∀ l : List Nat, l.length < 2 ^ 40 → (∀ x ∈ l, x < 256) → Vq.lim G 74 [.isl 0 1 [.isl 0 1 (byN l)]] [] = some (.int .u32 (crc l : Nat), []))
    (hc : ∀ es : List V, es.length ≤ 140737488355328 → Vq.lim G 51 [.isl 0 1 es] [] = some (.xsl 0 1 es, []))
    (b : List Nat) (hb : ∀ x ∈ b, x < 256) (hl : b.length < 2 ^ 31) : Vq.lim G 71 [.isl 0 1 (byN b)] [] = some (openV (openN b), []) := by
  have i1 : IntKind.i64.wrap (0 + 1) = ((1 : Nat) : Int) := by decide
  have i2 : IntKind.i64.wrap (((1 : Nat) : Int) + 1) = ((2 : Nat) : Int) := by decide
  refine lim_fun hG (h := runV trivial trivial ?_)
  refine WL_unroll (σ1 := ⟨(.isl 0 1 (byN b) :: .gone 0 :: .ptr (.obj 0 0) :: .gone 0 :: .gone 0 :: .gone 0 :: .gone 0 :: .gone 0 :: .gone 0 :: .gone 0 :: .gone 0 :: .gone 0 :: .agg [.int .u8 167, .int .u8 1] :: .int .i64 0 :: .gone 0 :: .gone 0 :: .gone 0 :: .gone 0 :: .gone 0 :: .gone 0 :: .gone 0 :: .gone 0 :: .gone 0 :: .gone 0 :: .gone 0 :: .gone 0 :: .gone 0 :: .gone 0 :: .gone 0 :: .gone 0 :: .gone 0 :: .gone 0 :: .gone 0 :: .gone 0 :: .gone 0 :: .gone 0 :: .gone 0 :: .gone 0 :: .gone 0 :: .gone 0 :: .gone 0 :: .gone 0 :: .gone 0 :: .gone 0 :: .gone 0 :: .gone 0 :: .gone 0 :: .gone 0 :: .gone 0 :: .gone 0 :: .gone 0 :: .gone 0 :: .gone 0 :: .gone 0 :: .gone 0 :: .gone 0 :: .gone 0 :: .gone 0 :: .gone 0 :: .gone 0 :: .gone 0 :: .gone 0 :: .gone 0 :: .gone 0 :: .gone 0 :: .gone 0 :: .gone 0 :: .gone 0 :: .gone 0 :: .gone 0 :: .gone 0 :: .gone 0 :: .gone 0 :: .gone 0 :: .gone 0 :: .gone 0 :: .gone 0 :: .gone 0 :: .gone 0 :: .gone 0 :: .gone 0 :: .gone 0 :: .gone 0 :: .gone 0 :: .gone 0 :: .gone 0 :: .gone 0 :: .gone 0 :: .gone 0 :: .gone 0 :: .gone 0 :: .gone 0 :: .gone 0 :: .gone 0 :: .gone 0 :: .gone 0 :: .gone 0 :: .gone 0 :: .gone 0 :: .gone 0 :: []), [some (.cells [.int .u8 0, .xsl 0 1 []])]⟩) (by kernel_rfl) ?_
  by_cases h0 : 0 < b.length
  case neg =>
    obtain rfl : b = [] := List.eq_nil_of_length_eq_zero (by omega)
    have ho : openN [] = ((0, []), 0, 61) := by unfold openN; simp
    rw [ho]
    refine runV i1 trivial ?_
    refine Qu_n ?_
    refine WL_unroll (σ1 := ⟨(.isl 0 1 (byN []) :: .gone 0 :: .ptr (.obj 0 0) :: .gone 0 :: .gone 0 :: .gone 0 :: .gone 0 :: .gone 0 :: .gone 0 :: .gone 0 :: .gone 0 :: .gone 0 :: .agg [.int .u8 167, .int .u8 1] :: .int .i64 (1 : Nat) :: .gone 0 :: .gone 0 :: .gone 0 :: .gone 0 :: .gone 0 :: .gone 0 :: .gone 0 :: .gone 0 :: .gone 0 :: .gone 0 :: .gone 0 :: .gone 0 :: .gone 0 :: .gone 0 :: .gone 0 :: .gone 0 :: .gone 0 :: .gone 0 :: .gone 0 :: .gone 0 :: .gone 0 :: .gone 0 :: .gone 0 :: .gone 0 :: .gone 0 :: .gone 0 :: .gone 0 :: .gone 0 :: .gone 0 :: .gone 0 :: .gone 0 :: .gone 0 :: .gone 0 :: .gone 0 :: .gone 0 :: .gone 0 :: .gone 0 :: .gone 0 :: .gone 0 :: .gone 0 :: .gone 0 :: .gone 0 :: .gone 0 :: .gone 0 :: .gone 0 :: .gone 0 :: .gone 0 :: .gone 0 :: .gone 0 :: .gone 0 :: .gone 0 :: .gone 0 :: .gone 0 :: .gone 0 :: .gone 0 :: .gone 0 :: .gone 0 :: .gone 0 :: .gone 0 :: .gone 0 :: .gone 0 :: .gone 0 :: .gone 0 :: .gone 0 :: .gone 0 :: .gone 0 :: .gone 0 :: .gone 0 :: .gone 0 :: .gone 0 :: .gone 0 :: .gone 0 :: .gone 0 :: .gone 0 :: .gone 0 :: .gone 0 :: .gone 0 :: .gone 0 :: .gone 0 :: .gone 0 :: .gone 0 :: .gone 0 :: .gone 0 :: .gone 0 :: .gone 0 :: .gone 0 :: []), [some (.cells [.int .u8 0, .xsl 0 1 []])]⟩) (by kernel_rfl) ?_
    refine runV i2 trivial ?_
    refine Qu_n ?_
    refine WL_unroll (σ1 := ⟨(.isl 0 1 (byN []) :: .gone 0 :: .ptr (.obj 0 0) :: .gone 0 :: .gone 0 :: .gone 0 :: .gone 0 :: .gone 0 :: .gone 0 :: .gone 0 :: .gone 0 :: .gone 0 :: .agg [.int .u8 167, .int .u8 1] :: .int .i64 (2 : Nat) :: .gone 0 :: .gone 0 :: .gone 0 :: .gone 0 :: .gone 0 :: .gone 0 :: .gone 0 :: .gone 0 :: .gone 0 :: .gone 0 :: .gone 0 :: .gone 0 :: .gone 0 :: .gone 0 :: .gone 0 :: .gone 0 :: .gone 0 :: .gone 0 :: .gone 0 :: .gone 0 :: .gone 0 :: .gone 0 :: .gone 0 :: .gone 0 :: .gone 0 :: .gone 0 :: .gone 0 :: .gone 0 :: .gone 0 :: .gone 0 :: .gone 0 :: .gone 0 :: .gone 0 :: .gone 0 :: .gone 0 :: .gone 0 :: .gone 0 :: .gone 0 :: .gone 0 :: .gone 0 :: .gone 0 :: .gone 0 :: .gone 0 :: .gone 0 :: .gone 0 :: .gone 0 :: .gone 0 :: .gone 0 :: .gone 0 :: .gone 0 :: .gone 0 :: .gone 0 :: .gone 0 :: .gone 0 :: .gone 0 :: .gone 0 :: .gone 0 :: .gone 0 :: .gone 0 :: .gone 0 :: .gone 0 :: .gone 0 :: .gone 0 :: .gone 0 :: .gone 0 :: .gone 0 :: .gone 0 :: .gone 0 :: .gone 0 :: .gone 0 :: .gone 0 :: .gone 0 :: .gone 0 :: .gone 0 :: .gone 0 :: .gone 0 :: .gone 0 :: .gone 0 :: .gone 0 :: .gone 0 :: .gone 0 :: .gone 0 :: .gone 0 :: .gone 0 :: .gone 0 :: .gone 0 :: []), [some (.cells [.int .u8 0, .xsl 0 1 []])]⟩) (by kernel_rfl) ?_
    refine runV trivial trivial ?_
    refine Qu_x ?_
    refine Qb_x (σ1 := ⟨(.isl 0 1 (byN []) :: .gone 0 :: .ptr (.obj 0 0) :: .gone 0 :: .gone 0 :: .gone 0 :: .gone 0 :: .gone 0 :: .gone 0 :: .gone 0 :: .gone 0 :: .gone 0 :: .gone 0 :: .gone 0 :: .gone 0 :: .gone 0 :: .gone 0 :: .gone 0 :: .gone 0 :: .gone 0 :: .gone 0 :: .gone 0 :: .gone 0 :: .gone 0 :: .gone 0 :: .gone 0 :: .gone 0 :: .gone 0 :: .gone 0 :: .gone 0 :: .gone 0 :: .gone 0 :: .gone 0 :: .gone 0 :: .gone 0 :: .gone 0 :: .gone 0 :: .gone 0 :: .gone 0 :: .gone 0 :: .gone 0 :: .gone 0 :: .gone 0 :: .gone 0 :: .gone 0 :: .gone 0 :: .gone 0 :: .gone 0 :: .gone 0 :: .gone 0 :: .gone 0 :: .gone 0 :: .gone 0 :: .gone 0 :: .gone 0 :: .gone 0 :: .gone 0 :: .gone 0 :: .gone 0 :: .gone 0 :: .gone 0 :: .gone 0 :: .gone 0 :: .gone 0 :: .gone 0 :: .gone 0 :: .gone 0 :: .gone 0 :: .gone 0 :: .gone 0 :: .gone 0 :: .gone 0 :: .gone 0 :: .gone 0 :: .gone 0 :: .gone 0 :: .gone 0 :: .gone 0 :: .gone 0 :: .gone 0 :: .gone 0 :: .gone 0 :: .gone 0 :: .gone 0 :: .gone 0 :: .gone 0 :: .gone 0 :: .gone 0 :: .gone 0 :: .gone 0 :: .gone 0 :: .gone 0 :: .gone 0 :: .gone 0 :: .gone 0 :: .gone 0 :: .gone 0 :: .gone 0 :: .gone 0 :: .gone 0 :: []), [some (.cells [.int .u8 0, .xsl 0 1 []])]⟩) (by kernel_rfl) ?_
    exact runV trivial trivial trivial
  case pos =>
    have hg0 := byN_get b 0 h0
    have hlt0 : decide (0 < (b.length : Int)) = true := by simp; omega
    have hnil : ∀ {e : Nat}, openV ((0, []), 0, e) = .tup [.agg [.int .u8 0, .xsl 0 1 []], .int .i64 0, .int .i64 (e : Int)] := rfl
    by_cases x0 : b[0] = 167
    case neg =>
      have ho : openN b = ((0, []), 0, 62) := by unfold openN; rw [if_pos (.inl ⟨h0, x0⟩)]
      rw [ho]
      have c0 : (((b[0] : Nat) : Int) == 167) = false := by simp; omega
      exact runV (And.intro hlt0 (And.intro hg0 c0)) trivial trivial
    have c0 : (((b[0] : Nat) : Int) == 167) = true := by simp; omega
    refine runV (And.intro hlt0 (And.intro hg0 (And.intro c0 i1))) trivial ?_
    refine Qu_n ?_
    refine WL_unroll (σ1 := ⟨(.isl 0 1 (byN b) :: .gone 0 :: .ptr (.obj 0 0) :: .gone 0 :: .gone 0 :: .gone 0 :: .gone 0 :: .gone 0 :: .gone 0 :: .gone 0 :: .gone 0 :: .gone 0 :: .agg [.int .u8 167, .int .u8 1] :: .int .i64 (1 : Nat) :: .gone 0 :: .gone 0 :: .gone 0 :: .gone 0 :: .gone 0 :: .gone 0 :: .gone 0 :: .gone 0 :: .gone 0 :: .gone 0 :: .gone 0 :: .gone 0 :: .gone 0 :: .gone 0 :: .gone 0 :: .gone 0 :: .gone 0 :: .gone 0 :: .gone 0 :: .gone 0 :: .gone 0 :: .gone 0 :: .gone 0 :: .gone 0 :: .gone 0 :: .gone 0 :: .gone 0 :: .gone 0 :: .gone 0 :: .gone 0 :: .gone 0 :: .gone 0 :: .gone 0 :: .gone 0 :: .gone 0 :: .gone 0 :: .gone 0 :: .gone 0 :: .gone 0 :: .gone 0 :: .gone 0 :: .gone 0 :: .gone 0 :: .gone 0 :: .gone 0 :: .gone 0 :: .gone 0 :: .gone 0 :: .gone 0 :: .gone 0 :: .gone 0 :: .gone 0 :: .gone 0 :: .gone 0 :: .gone 0 :: .gone 0 :: .gone 0 :: .gone 0 :: .gone 0 :: .gone 0 :: .gone 0 :: .gone 0 :: .gone 0 :: .gone 0 :: .gone 0 :: .gone 0 :: .gone 0 :: .gone 0 :: .gone 0 :: .gone 0 :: .gone 0 :: .gone 0 :: .gone 0 :: .gone 0 :: .gone 0 :: .gone 0 :: .gone 0 :: .gone 0 :: .gone 0 :: .gone 0 :: .gone 0 :: .gone 0 :: .gone 0 :: .gone 0 :: .gone 0 :: .gone 0 :: []), [some (.cells [.int .u8 0, .xsl 0 1 []])]⟩) (by kernel_rfl) ?_
    by_cases h1 : 1 < b.length
    case neg =>
      have ho : openN b = ((0, []), 0, 61) := by
        unfold openN
        rw [if_neg (by rintro (⟨h, h'⟩ | ⟨h, h'⟩); exact h' x0; exact h1 h), if_pos (by omega)]
      rw [ho]
      have c1 : decide (((1 : Nat) : Int) < (b.length : Int)) = false := by simp; omega
      have c3 : decide ((b.length : Int) < 3) = true := by simp; omega
      refine runV (And.intro c1 i2) trivial ?_
      refine Qu_n ?_
      refine WL_unroll (σ1 := ⟨(.isl 0 1 (byN b) :: .gone 0 :: .ptr (.obj 0 0) :: .gone 0 :: .gone 0 :: .gone 0 :: .gone 0 :: .gone 0 :: .gone 0 :: .gone 0 :: .gone 0 :: .gone 0 :: .agg [.int .u8 167, .int .u8 1] :: .int .i64 (2 : Nat) :: .gone 0 :: .gone 0 :: .gone 0 :: .gone 0 :: .gone 0 :: .gone 0 :: .gone 0 :: .gone 0 :: .gone 0 :: .gone 0 :: .gone 0 :: .gone 0 :: .gone 0 :: .gone 0 :: .gone 0 :: .gone 0 :: .gone 0 :: .gone 0 :: .gone 0 :: .gone 0 :: .gone 0 :: .gone 0 :: .gone 0 :: .gone 0 :: .gone 0 :: .gone 0 :: .gone 0 :: .gone 0 :: .gone 0 :: .gone 0 :: .gone 0 :: .gone 0 :: .gone 0 :: .gone 0 :: .gone 0 :: .gone 0 :: .gone 0 :: .gone 0 :: .gone 0 :: .gone 0 :: .gone 0 :: .gone 0 :: .gone 0 :: .gone 0 :: .gone 0 :: .gone 0 :: .gone 0 :: .gone 0 :: .gone 0 :: .gone 0 :: .gone 0 :: .gone 0 :: .gone 0 :: .gone 0 :: .gone 0 :: .gone 0 :: .gone 0 :: .gone 0 :: .gone 0 :: .gone 0 :: .gone 0 :: .gone 0 :: .gone 0 :: .gone 0 :: .gone 0 :: .gone 0 :: .gone 0 :: .gone 0 :: .gone 0 :: .gone 0 :: .gone 0 :: .gone 0 :: .gone 0 :: .gone 0 :: .gone 0 :: .gone 0 :: .gone 0 :: .gone 0 :: .gone 0 :: .gone 0 :: .gone 0 :: .gone 0 :: .gone 0 :: .gone 0 :: .gone 0 :: .gone 0 :: []), [some (.cells [.int .u8 0, .xsl 0 1 []])]⟩) (by kernel_rfl) ?_
      refine runV trivial trivial ?_
      refine Qu_x ?_
      refine Qb_x (σ1 := ⟨(.isl 0 1 (byN b) :: .gone 0 :: .ptr (.obj 0 0) :: .gone 0 :: .gone 0 :: .gone 0 :: .gone 0 :: .gone 0 :: .gone 0 :: .gone 0 :: .gone 0 :: .gone 0 :: .gone 0 :: .gone 0 :: .gone 0 :: .gone 0 :: .gone 0 :: .gone 0 :: .gone 0 :: .gone 0 :: .gone 0 :: .gone 0 :: .gone 0 :: .gone 0 :: .gone 0 :: .gone 0 :: .gone 0 :: .gone 0 :: .gone 0 :: .gone 0 :: .gone 0 :: .gone 0 :: .gone 0 :: .gone 0 :: .gone 0 :: .gone 0 :: .gone 0 :: .gone 0 :: .gone 0 :: .gone 0 :: .gone 0 :: .gone 0 :: .gone 0 :: .gone 0 :: .gone 0 :: .gone 0 :: .gone 0 :: .gone 0 :: .gone 0 :: .gone 0 :: .gone 0 :: .gone 0 :: .gone 0 :: .gone 0 :: .gone 0 :: .gone 0 :: .gone 0 :: .gone 0 :: .gone 0 :: .gone 0 :: .gone 0 :: .gone 0 :: .gone 0 :: .gone 0 :: .gone 0 :: .gone 0 :: .gone 0 :: .gone 0 :: .gone 0 :: .gone 0 :: .gone 0 :: .gone 0 :: .gone 0 :: .gone 0 :: .gone 0 :: .gone 0 :: .gone 0 :: .gone 0 :: .gone 0 :: .gone 0 :: .gone 0 :: .gone 0 :: .gone 0 :: .gone 0 :: .gone 0 :: .gone 0 :: .gone 0 :: .gone 0 :: .gone 0 :: .gone 0 :: .gone 0 :: .gone 0 :: .gone 0 :: .gone 0 :: .gone 0 :: .gone 0 :: .gone 0 :: .gone 0 :: .gone 0 :: .gone 0 :: []), [some (.cells [.int .u8 0, .xsl 0 1 []])]⟩) (by kernel_rfl) ?_
      exact runV c3 trivial trivial
    have hg1 := byN_get b 1 h1
    have c1 : decide (((1 : Nat) : Int) < (b.length : Int)) = true := by simp; omega
    by_cases x1 : b[1] = 1
    case neg =>
      have ho : openN b = ((0, []), 0, 62) := by unfold openN; rw [if_pos (.inr ⟨h1, x1⟩)]
      rw [ho]
      have d1 : (((b[1] : Nat) : Int) == 1) = false := by simp; omega
      exact runV (And.intro c1 (And.intro hg1 d1)) trivial trivial
    have d1 : (((b[1] : Nat) : Int) == 1) = true := by simp; omega
    refine runV (And.intro c1 (And.intro hg1 (And.intro d1 i2))) trivial ?_
    refine Qu_n ?_
    refine WL_unroll (σ1 := ⟨(.isl 0 1 (byN b) :: .gone 0 :: .ptr (.obj 0 0) :: .gone 0 :: .gone 0 :: .gone 0 :: .gone 0 :: .gone 0 :: .gone 0 :: .gone 0 :: .gone 0 :: .gone 0 :: .agg [.int .u8 167, .int .u8 1] :: .int .i64 (2 : Nat) :: .gone 0 :: .gone 0 :: .gone 0 :: .gone 0 :: .gone 0 :: .gone 0 :: .gone 0 :: .gone 0 :: .gone 0 :: .gone 0 :: .gone 0 :: .gone 0 :: .gone 0 :: .gone 0 :: .gone 0 :: .gone 0 :: .gone 0 :: .gone 0 :: .gone 0 :: .gone 0 :: .gone 0 :: .gone 0 :: .gone 0 :: .gone 0 :: .gone 0 :: .gone 0 :: .gone 0 :: .gone 0 :: .gone 0 :: .gone 0 :: .gone 0 :: .gone 0 :: .gone 0 :: .gone 0 :: .gone 0 :: .gone 0 :: .gone 0 :: .gone 0 :: .gone 0 :: .gone 0 :: .gone 0 :: .gone 0 :: .gone 0 :: .gone 0 :: .gone 0 :: .gone 0 :: .gone 0 :: .gone 0 :: .gone 0 :: .gone 0 :: .gone 0 :: .gone 0 :: .gone 0 :: .gone 0 :: .gone 0 :: .gone 0 :: .gone 0 :: .gone 0 :: .gone 0 :: .gone 0 :: .gone 0 :: .gone 0 :: .gone 0 :: .gone 0 :: .gone 0 :: .gone 0 :: .gone 0 :: .gone 0 :: .gone 0 :: .gone 0 :: .gone 0 :: .gone 0 :: .gone 0 :: .gone 0 :: .gone 0 :: .gone 0 :: .gone 0 :: .gone 0 :: .gone 0 :: .gone 0 :: .gone 0 :: .gone 0 :: .gone 0 :: .gone 0 :: .gone 0 :: .gone 0 :: []), [some (.cells [.int .u8 0, .xsl 0 1 []])]⟩) (by kernel_rfl) ?_
    refine runV trivial trivial ?_
    refine Qu_x ?_
    refine Qb_x (σ1 := ⟨(.isl 0 1 (byN b) :: .gone 0 :: .ptr (.obj 0 0) :: .gone 0 :: .gone 0 :: .gone 0 :: .gone 0 :: .gone 0 :: .gone 0 :: .gone 0 :: .gone 0 :: .gone 0 :: .gone 0 :: .gone 0 :: .gone 0 :: .gone 0 :: .gone 0 :: .gone 0 :: .gone 0 :: .gone 0 :: .gone 0 :: .gone 0 :: .gone 0 :: .gone 0 :: .gone 0 :: .gone 0 :: .gone 0 :: .gone 0 :: .gone 0 :: .gone 0 :: .gone 0 :: .gone 0 :: .gone 0 :: .gone 0 :: .gone 0 :: .gone 0 :: .gone 0 :: .gone 0 :: .gone 0 :: .gone 0 :: .gone 0 :: .gone 0 :: .gone 0 :: .gone 0 :: .gone 0 :: .gone 0 :: .gone 0 :: .gone 0 :: .gone 0 :: .gone 0 :: .gone 0 :: .gone 0 :: .gone 0 :: .gone 0 :: .gone 0 :: .gone 0 :: .gone 0 :: .gone 0 :: .gone 0 :: .gone 0 :: .gone 0 :: .gone 0 :: .gone 0 :: .gone 0 :: .gone 0 :: .gone 0 :: .gone 0 :: .gone 0 :: .gone 0 :: .gone 0 :: .gone 0 :: .gone 0 :: .gone 0 :: .gone 0 :: .gone 0 :: .gone 0 :: .gone 0 :: .gone 0 :: .gone 0 :: .gone 0 :: .gone 0 :: .gone 0 :: .gone 0 :: .gone 0 :: .gone 0 :: .gone 0 :: .gone 0 :: .gone 0 :: .gone 0 :: .gone 0 :: .gone 0 :: .gone 0 :: .gone 0 :: .gone 0 :: .gone 0 :: .gone 0 :: .gone 0 :: .gone 0 :: .gone 0 :: .gone 0 :: []), [some (.cells [.int .u8 0, .xsl 0 1 []])]⟩) (by kernel_rfl) ?_
    have hh : ¬ ((∃ h : 0 < b.length, b[0] ≠ 167) ∨ (∃ h : 1 < b.length, b[1] ≠ 1)) := by
      rintro (⟨h, h'⟩ | ⟨h, h'⟩)
      · exact h' x0
      · exact h' x1
    unfold openN
    rw [if_neg hh]
    by_cases h3 : b.length < 3
    case pos =>
      rw [if_pos h3]
      have c3 : decide ((b.length : Int) < 3) = true := by simp; omega
      exact runV c3 trivial trivial
    rw [if_neg h3]
    have c3 : decide ((b.length : Int) < 3) = false := by simp; omega
    have hb3 : ∀ x ∈ b.drop 3, x < 256 := fun x hx => hb x (List.mem_of_mem_drop hx)
    have h2 := hn (b.drop 3) (by simp; omega) hb3
    have e3 : List.take (b.length - 3) (List.drop 3 (byN b)) = byN (b.drop 3) := by rw [byN_sub', List.take_of_length_le (by simp)]
    rcases dec_cases' 65536 (b.drop 3) 0 0 with h | h | ⟨N, u, h, hu1, hu2, hu3⟩
    · rw [h] at h2 ⊢
      have c4 : decide ((-1 : Int) < 0) = true := rfl
      exact runV (And.intro c3 (And.intro e3 c4)) trivial trivial
    · rw [h] at h2 ⊢
      have c4 : decide ((0 : Int) < 0) = false := rfl
      exact runV (And.intro c3 (And.intro e3 c4)) trivial trivial
    rw [h] at h2 ⊢
    have hN : N ≤ 65536 := hu3
    have hu : 3 + u ≤ b.length := by simp at hu2; omega
    simp only [Int.toNat_natCast]
    rw [if_neg (by omega), if_neg (by omega)]
    have c4 : decide ((u : Int) < 0) = false := by simp
    have c5 : ((u : Int) == 0) = false := by simp; omega
    have s1 : IntKind.i64.wrap (3 + (u : Int)) = ((3 + u : Nat) : Int) := by rw [wrapi64 _ (by omega) (by omega)]; omega
    have s2 : IntKind.i64.wrap (N : Int) = (N : Int) := wrapi64 _ (by omega) (by omega)
    have s3 : IntKind.i64.wrap (((3 + u : Nat) : Int) + (N : Int)) = ((3 + u + N : Nat) : Int) := by rw [wrapi64 _ (by omega) (by omega)]; omega
    have F := And.intro c3 (And.intro e3 (And.intro c4 (And.intro c5 (And.intro s1 (And.intro s2 s3)))))
    by_cases h4 : b.length < 3 + u + N
    case pos =>
      rw [if_pos h4]
      have c6 : decide ((b.length : Int) < ((3 + u + N : Nat) : Int)) = true := by simp; omega
      exact runV (And.intro c6 F) trivial trivial
    rw [if_neg h4]
    have c6 : decide ((b.length : Int) < ((3 + u + N : Nat) : Int)) = false := by simp; omega
    have h5 := hO (b.take (3 + u + N)) (by simp; omega) (fun x hx => hb x (List.mem_of_mem_take hx))
    obtain ⟨e, he⟩ : ∃ e, e = 3 + u + N := ⟨_, rfl⟩
    rw [← he] at h5 c6 h4 F ⊢
    have hel : e ≤ b.length := by omega
    obtain ⟨c, hcd⟩ : ∃ c, c = crc (b.take e) := ⟨_, rfl⟩
    have hc32 : c < 2 ^ 32 := by rw [hcd]; exact crc_lt _
    rw [← hcd] at h5 ⊢
    obtain ⟨t, htd⟩ : ∃ t, t = tailN (b.drop e) (fourN c) := ⟨_, rfl⟩
    rw [← htd]
    refine runV (And.intro c6 F) trivial ?_
    refine WL_loop (fun i : Nat => ⟨(.isl 0 1 (byN b) :: .gone 0 :: .ptr (.obj 0 0) :: .gone 0 :: .gone 0 :: .gone 0 :: .gone 0 :: .gone 0 :: .int .i64 u :: .int .i64 e :: .int .u32 c :: .gone 0 :: .gone 0 :: .gone 0 :: .gone 0 :: .gone 0 :: .gone 0 :: .gone 0 :: .gone 0 :: .gone 0 :: .gone 0 :: .gone 0 :: .gone 0 :: .gone 0 :: .gone 0 :: .gone 0 :: .gone 0 :: .gone 0 :: .gone 0 :: .gone 0 :: .gone 0 :: .gone 0 :: .gone 0 :: .gone 0 :: .gone 0 :: .gone 0 :: .gone 0 :: .gone 0 :: .gone 0 :: .gone 0 :: .int .i64 u :: .gone 0 :: .gone 0 :: .gone 0 :: .gone 0 :: .gone 0 :: .gone 0 :: .gone 0 :: .gone 0 :: .gone 0 :: .gone 0 :: .gone 0 :: .gone 0 :: .gone 0 :: .gone 0 :: .gone 0 :: .gone 0 :: .gone 0 :: .gone 0 :: .gone 0 :: .gone 0 :: .gone 0 :: .gone 0 :: .gone 0 :: .int .i64 i :: .gone 0 :: .gone 0 :: .gone 0 :: .gone 0 :: .gone 0 :: .gone 0 :: .gone 0 :: .gone 0 :: .gone 0 :: .gone 0 :: .gone 0 :: .gone 0 :: .gone 0 :: .gone 0 :: .gone 0 :: .gone 0 :: .gone 0 :: .gone 0 :: .gone 0 :: .gone 0 :: .gone 0 :: .gone 0 :: .gone 0 :: .gone 0 :: .gone 0 :: .gone 0 :: .gone 0 :: .gone 0 :: .gone 0 :: .gone 0 :: .gone 0 :: .gone 0 :: .gone 0 :: .gone 0 :: .gone 0 :: []), [some (.cells [.int .u8 0, .xsl 0 1 []])]⟩)
      (fun i => i ≤ 4 ∧ tailN (b.drop (e + i)) ((fourN c).drop i) = t) (fun i => 4 - i) ?_ 0 _ ⟨by omega, htd.symm⟩ (by kernel_rfl)
    rintro i ⟨hi, ht⟩
    by_cases hi4 : i < 4
    · have g1 : decide ((i : Int) < 4) = true := by simp; omega
      have g2 := inc64 i (by omega)
      have g3 : IntKind.i64.wrap ((e : Int) + (i : Int)) = ((e + i : Nat) : Int) := by rw [wrapi64 _ (by omega) (by omega)]; omega
      have hdr : (fourN c).drop i = (c / 2 ^ (8 * i) % 256) :: (fourN c).drop (i + 1) := by
        rcases (by omega : i = 0 ∨ i = 1 ∨ i = 2 ∨ i = 3) with rfl | rfl | rfl | rfl <;> simp [fourN]
      rw [hdr] at ht
      by_cases h6 : e + i < b.length
      case neg =>
        rw [List.drop_of_length_le (by omega)] at ht
        have ht' : t = 61 := ht.symm
        subst ht'
        rw [if_pos (by decide)]
        have g4 : decide ((b.length : Int) ≤ ((e + i : Nat) : Int)) = true := by simp; omega
        refine runV (And.intro g1 (And.intro g2 (And.intro g3 g4))) trivial ?_
        exact Qr_r (Qb_r (Qs_r (Qe_r (by kernel_rfl))))
      have g4 : decide ((b.length : Int) ≤ ((e + i : Nat) : Int)) = false := by simp; omega
      have g5 := byN_get b (e + i) h6
      have g6 : IntKind.i64.wrap (8 * (i : Int)) = ((8 * i : Nat) : Int) := by rw [wrapi64 _ (by omega) (by omega)]; omega
      have g7 : (c : Int).fdiv (2 ^ min (8 * i) IntKind.u32.bits) = ((c / 2 ^ (8 * i) : Nat) : Int) := by
        have e1 : min (8 * i) IntKind.u32.bits = 8 * i := Nat.min_eq_left (by show 8 * i ≤ 32; omega)
        rw [e1, Int.fdiv_eq_ediv_of_nonneg _ (by exact Int.le_of_lt (Int.pow_pos (by decide)))]
        rw [show (2 : Int) ^ (8 * i) = ((2 ^ (8 * i) : Nat) : Int) by rw [Int.natCast_pow]; rfl]
        rfl
      have g8 := wrap8m (c / 2 ^ (8 * i))
      rw [List.drop_eq_getElem_cons h6] at ht
      obtain ⟨x, hx⟩ : ∃ x, x = b[e + i] := ⟨_, rfl⟩
      obtain ⟨y, hy⟩ : ∃ y, y = c / 2 ^ (8 * i) % 256 := ⟨_, rfl⟩
      rw [← hx] at ht g5
      rw [← hy] at ht g8
      have F2 := And.intro g1 (And.intro g2 (And.intro g3 (And.intro g4 (And.intro g5 (And.intro g6 (And.intro g7 g8))))))
      simp only [tailN] at ht
      by_cases hxy : x = y
      · rw [if_pos hxy] at ht
        have g9 : ((x : Int) == (y : Int)) = true := by simp; omega
        refine runV (And.intro g9 F2) trivial ?_
        exact Qr_n (i + 1) (by kernel_rfl) ⟨⟨by omega, by rw [← Nat.add_assoc]; exact ht⟩, by omega⟩
      · rw [if_neg hxy] at ht
        have ht' : t = 62 := ht.symm
        subst ht'
        rw [if_pos (by decide)]
        have g9 : ((x : Int) == (y : Int)) = false := by simp; omega
        refine runV (And.intro g9 F2) trivial ?_
        exact Qr_r (Qb_r (Qs_r (Qe_r (by kernel_rfl))))
    · obtain rfl : i = 4 := by omega
      have ht' : t = 0 := by rw [← ht]; unfold fourN; simp [tailN]
      subst ht'
      rw [if_neg (by simp)]
      refine runV trivial trivial ?_
      refine Qr_x ?_
      refine Qb_x (σ1 := ⟨(.isl 0 1 (byN b) :: .gone 0 :: .ptr (.obj 0 0) :: .gone 0 :: .gone 0 :: .gone 0 :: .gone 0 :: .gone 0 :: .int .i64 u :: .int .i64 e :: .gone 0 :: .gone 0 :: .gone 0 :: .gone 0 :: .gone 0 :: .gone 0 :: .gone 0 :: .gone 0 :: .gone 0 :: .gone 0 :: .gone 0 :: .gone 0 :: .gone 0 :: .gone 0 :: .gone 0 :: .gone 0 :: .gone 0 :: .gone 0 :: .gone 0 :: .gone 0 :: .gone 0 :: .gone 0 :: .gone 0 :: .gone 0 :: .gone 0 :: .gone 0 :: .gone 0 :: .gone 0 :: .gone 0 :: .gone 0 :: .int .i64 u :: .gone 0 :: .gone 0 :: .gone 0 :: .gone 0 :: .gone 0 :: .gone 0 :: .gone 0 :: .gone 0 :: .gone 0 :: .gone 0 :: .gone 0 :: .gone 0 :: .gone 0 :: .gone 0 :: .gone 0 :: .gone 0 :: .gone 0 :: .gone 0 :: .gone 0 :: .gone 0 :: .gone 0 :: .gone 0 :: .gone 0 :: .gone 0 :: .gone 0 :: .gone 0 :: .gone 0 :: .gone 0 :: .gone 0 :: .gone 0 :: .gone 0 :: .gone 0 :: .gone 0 :: .gone 0 :: .gone 0 :: .gone 0 :: .gone 0 :: .gone 0 :: .gone 0 :: .gone 0 :: .gone 0 :: .gone 0 :: .gone 0 :: .gone 0 :: .gone 0 :: .gone 0 :: .gone 0 :: .gone 0 :: .gone 0 :: .gone 0 :: .gone 0 :: .gone 0 :: .gone 0 :: .gone 0 :: .gone 0 :: .gone 0 :: .gone 0 :: .gone 0 :: .gone 0 :: []), [some (.cells [.int .u8 0, .xsl 0 1 []])]⟩) (by kernel_rfl) ?_
      have h2l : 2 < b.length := by omega
      have k1 := byN_get b 2 h2l
      have k2 : b.getD 2 0 = b[2] := by simp [List.getD_eq_getElem?_getD, h2l]
      rw [k2]
      obtain ⟨kd, hkd⟩ : ∃ k, k = b[2] := ⟨_, rfl⟩
      rw [← hkd] at k1 ⊢
      obtain ⟨body, hbody⟩ : ∃ l, l = (b.drop (3 + u)).take N := ⟨_, rfl⟩
      have k3 : List.take (e - (3 + u)) (List.drop (3 + u) (byN b)) = byN body := by rw [byN_sub', hbody]; congr 2; omega
      rw [← hbody]
      have k4 := hc (byN body) (by rw [byN_len, hbody]; simp; omega)
      have k5 : V.apart (.xsl 0 1 (byN body)) = true := by simp [V.apart, V.leaves, byN, V.noslice]
      have k6 : IntKind.i64.wrap ((e : Int) + 4) = ((e + 4 : Nat) : Int) := by rw [wrapi64 _ (by omega) (by omega)]; omega
      have k7 : 3 + u ≤ e := by omega
      refine runV (And.intro k1 (And.intro k3 (And.intro k6 s1))) k5 ?_
      exact Qe_r (fin_cell rfl rfl rfl rfl rfl rfl)
end
end P1
end Go.Vq
namespace Go.Vq
namespace P1
open Go
set_option maxRecDepth 1000000
set_option maxHeartbeats 8000000
theorem tailN_zero : ∀ (s : List Nat) (l : List Nat), tailN l s = 0 → l.take s.length = s
  | [], l, _ => rfl
  | y :: s, [], h => by simp [tailN] at h
  | y :: s, x :: l, h => by
    simp only [tailN] at h
    split at h
    · rename_i e
      subst e
      simp only [List.length_cons, List.take_succ_cons, tailN_zero s l h]
    · cases h
theorem dec_inv (lim : Nat) : ∀ (l : List Nat) (i n : Nat) (N u : Nat), (∀ x ∈ l, x < 256) → dec lim i n l = ((N : Int), (u : Int)) → 0 < u → ∃ m, l.take (u - i) = digN m ∧ i < u ∧ u ≤ i + l.length ∧ N = n + m * 2 ^ (7 * i) ∧ (0 < i → 0 < m)
  | [], i, n, N, u, _, h, hu => by
    exfalso; simp [dec] at h; omega
  | x :: l, i, n, N, u, hb, h, hu => by
    have hx := hb x (by simp)
    rw [dec_cons] at h
    split at h
    · simp at h <;> omega
    · rename_i hc
      split at h
      · rename_i h128
        simp only [Prod.mk.injEq] at h
        have hu' : u = i + 1 := by omega
        have hN : N = n + x % 128 * 2 ^ (7 * i) := by omega
        have e : x % 128 = x := Nat.mod_eq_of_lt h128
        rw [e] at hN
        refine ⟨x, ?_, by omega, by simp only [List.length_cons]; omega, hN, fun hi => ?_⟩
        · rw [hu', show i + 1 - i = 1 by omega, digN_lo h128]; rfl
        · rcases Nat.eq_zero_or_pos x with h0 | h0
          · exact absurd (.inr (.inl ⟨hi, h0⟩)) hc
          · exact h0
      · rename_i h128
        split at h
        · simp at h <;> omega
        · obtain ⟨m, h1, h2, h3, h4, h5⟩ := dec_inv lim l (i + 1) _ N u (fun y hy => hb y (by simp [hy])) h hu
          have hm := h5 (by omega)
          have e2 : 2 ^ (7 * (i + 1)) = 128 * 2 ^ (7 * i) := by rw [show 7 * (i + 1) = 7 * i + 7 by omega, Nat.pow_add, Nat.mul_comm]
          refine ⟨m * 128 + x % 128, ?_, by omega, by simp only [List.length_cons]; omega, ?_, fun _ => by omega⟩
          · rw [digN_hi (by omega), show (m * 128 + x % 128) % 128 + 128 = x by omega, show (m * 128 + x % 128) / 128 = m by omega, ← h1, show u - i = (u - (i + 1)) + 1 by omega, List.take_succ_cons]
          · rw [h4, e2, Nat.add_mul, Nat.mul_assoc]; omega
theorem openN_cons (k : Nat) (r : List Nat) : openN (167 :: 1 :: k :: r) =
    if (dec 65536 0 0 r).2 < 0 then ((0, []), 0, 62) else if (dec 65536 0 0 r).2 = 0 then ((0, []), 0, 61) else
    if r.length < (dec 65536 0 0 r).2.toNat + (dec 65536 0 0 r).1.toNat then ((0, []), 0, 61) else
    if tailN (r.drop ((dec 65536 0 0 r).2.toNat + (dec 65536 0 0 r).1.toNat)) (fourN (crc (167 :: 1 :: k :: r.take ((dec 65536 0 0 r).2.toNat + (dec 65536 0 0 r).1.toNat)))) ≠ 0 then
      ((0, []), 0, tailN (r.drop ((dec 65536 0 0 r).2.toNat + (dec 65536 0 0 r).1.toNat)) (fourN (crc (167 :: 1 :: k :: r.take ((dec 65536 0 0 r).2.toNat + (dec 65536 0 0 r).1.toNat)))))
    else ((k, (r.drop (dec 65536 0 0 r).2.toNat).take (dec 65536 0 0 r).1.toNat), 3 + ((dec 65536 0 0 r).2.toNat + (dec 65536 0 0 r).1.toNat) + 4, 0) := by
  unfold openN
  rw [if_neg (by rintro (⟨h, h'⟩ | ⟨h, h'⟩); exact h' rfl; exact h' rfl), if_neg (by simp only [List.length_cons]; omega)]
  have e0 : List.drop 3 (167 :: 1 :: k :: r) = r := rfl
  have e1 : ∀ u N, List.drop (3 + (u + N)) (167 :: 1 :: k :: r) = r.drop (u + N) := fun u N => by rw [show 3 + (u + N) = (u + N) + 3 by omega]; rfl
  have e2 : ∀ u N, List.take (3 + (u + N)) (167 :: 1 :: k :: r) = 167 :: 1 :: k :: r.take (u + N) := fun u N => by rw [show 3 + (u + N) = (u + N) + 3 by omega]; rfl
  have e3 : ∀ u, List.drop (3 + u) (167 :: 1 :: k :: r) = r.drop u := fun u => by rw [show 3 + u = u + 3 by omega]; rfl
  have e4 : ∀ u N, ((167 :: 1 :: k :: r).length < 3 + (u + N)) = (r.length < u + N) := fun u N => by simp only [List.length_cons, eq_iff_iff]; omega
  simp only [e0, e1, e2, e3, e4, List.getD_cons_succ, List.getD_cons_zero, Nat.add_assoc]
theorem frameN_len (k : Nat) (body : List Nat) : (frameN k body).length = 7 + (digN body.length).length + body.length := by simp [frameN, headN, fourN]; omega
theorem open_inv (b : List Nat) (hb : ∀ x ∈ b, x < 256) (k : Nat) (body : List Nat) (n : Nat) (h : openN b = ((k, body), n, 0)) : frameN k body = b.take n ∧ body.length ≤ 65536 ∧ n ≤ b.length ∧ (∀ x ∈ body, x < 256) ∧ k < 256 := by
  by_cases hh : (∃ h : 0 < b.length, b[0] ≠ 167) ∨ (∃ h : 1 < b.length, b[1] ≠ 1)
  · unfold openN at h; rw [if_pos hh] at h; simp at h
  by_cases h3 : b.length < 3
  · unfold openN at h; rw [if_neg hh, if_pos h3] at h; simp at h
  obtain ⟨a0, a1, k', r, rfl⟩ : ∃ a0 a1 k' r, b = a0 :: a1 :: k' :: r := by
    match b, h3 with
    | a0 :: a1 :: k' :: r, _ => exact ⟨_, _, _, _, rfl⟩
    | [], h => simp at h
    | [_], h => simp at h
    | [_, _], h => simp at h
  have ha0 : a0 = 167 := by
    rcases Nat.eq_or_lt_of_le (Nat.le_refl a0) with _ | _
    · by_cases e : a0 = 167
      · exact e
      · exact absurd (.inl ⟨by simp, e⟩) hh
    · omega
  have ha1 : a1 = 1 := by
    by_cases e : a1 = 1
    · exact e
    · exact absurd (.inr ⟨by simp, e⟩) hh
  subst ha0 ha1
  rw [openN_cons] at h
  have hbr : ∀ x ∈ r, x < 256 := fun x hx => hb x (by simp [hx])
  rcases dec_cases' 65536 r 0 0 with hd | hd | ⟨N, u, hd, hu1, hu2, hu3⟩
  · rw [hd] at h; simp at h
  · rw [hd] at h; simp at h
  rw [hd] at h
  simp only [Int.toNat_natCast] at h
  rw [if_neg (by omega), if_neg (by omega)] at h
  split at h
  · simp at h
  rename_i hlen
  split at h
  · simp at h
    omega
  rename_i ht
  simp only [ne_eq, Decidable.not_not] at ht
  simp only [Prod.mk.injEq] at h
  obtain ⟨⟨rfl, rfl⟩, rfl, _⟩ := h
  obtain ⟨m, h1, _, _, h4, _⟩ := dec_inv 65536 r 0 0 N u hbr hd hu1
  simp only [Nat.sub_zero, Nat.mul_zero, Nat.pow_zero, Nat.mul_one, Nat.zero_add] at h1 h4
  subst h4
  have hbl : ((r.drop u).take N).length = N := by simp; omega
  have hhead : headN k' ((r.drop u).take N) = 167 :: 1 :: k' :: r.take (u + N) := by
    unfold headN
    rw [hbl, ← h1]
    simp only [List.cons_append, List.nil_append, List.append_assoc, List.cons.injEq, true_and]
    rw [List.take_add]
  have hf := tailN_zero _ _ ht
  refine ⟨?_, by rw [hbl]; exact hu3, ?_, fun x hx => hbr x (List.mem_of_mem_drop (List.mem_of_mem_take hx)), hb k' (by simp)⟩
  · unfold frameN
    rw [hhead, show 3 + (u + N) + 4 = (u + N) + 4 + 3 by omega]
    simp only [List.take_succ_cons, List.cons_append, List.cons.injEq, true_and]
    have h9 : List.take (u + N + 4) r = List.take (u + N) r ++ List.take 4 (List.drop (u + N) r) := List.take_add
    rw [h9]
    exact congrArg (List.take (u + N) r ++ ·) hf.symm
  · have hf4 := congrArg List.length hf
    simp only [List.length_take, List.length_drop, fourN, List.length_cons, List.length_nil] at hf4
    simp only [List.length_cons]
    omega
end P1
end Go.Vq
