/- The V-level machine, run on values that are not known (no law of Go is stated here). -/
import Derived.Test.YtigbpkocmklbpaaP
import Derived.KernelRfl
set_option linter.unusedVariables false
set_option linter.unusedSimpArgs false
set_option linter.unusedSectionVars false
namespace Go.Vq
namespace P1
open Go
set_option maxRecDepth 1000000
set_option maxHeartbeats 8000000
abbrev b13 : VCode := .seq (.region [⟨some 4, .assign (.val (.bool false)), none, 0⟩] false) (.seq (.seq (.region [⟨some 14, .call true 31 0 [], none, 0⟩, ⟨some 15, .un (.not) (.tmp 14), none, 1⟩] false) (.cond (.tmp 15) (.seq (.region [⟨some 4, .assign (.val (.bool false)), none, 0⟩] false) (.ret)) (.skip))) (.seq (.seq (.region [⟨some 16, .move (.tmp 0), none, 0⟩, ⟨some 17, .len (.slc 1) (.tmp 16), none, 1⟩, ⟨some 18, .bin (.gtr) (.tmp 17) (.val (.int .i64 500)), none, 3⟩, ⟨some 19, .move (.tmp 18), none, 7⟩, ⟨some 20, .move (.tmp 1), some (19, false), 15⟩, ⟨some 21, .len (.slc 2) (.tmp 20), some (19, false), 31⟩, ⟨some 22, .bin (.gtr) (.tmp 21) (.val (.int .i64 60)), some (19, false), 63⟩, ⟨some 23, .pick (.tmp 19) (.val (.bool true)) (.tmp 22), none, 127⟩] false) (.cond (.tmp 23) (.seq (.region [⟨some 4, .assign (.val (.bool true)), none, 0⟩] false) (.ret)) (.skip))) (.seq (.region [⟨some 24, .move (.tmp 0), none, 0⟩, ⟨some 25, .call false 39 0 [(.tmp 24)], none, 1⟩, ⟨some 5, .assign (.tmp 25), none, 3⟩] false) (.seq (.region [⟨some 26, .move (.tmp 0), none, 0⟩, ⟨some 6, .assign (.tmp 26), none, 1⟩, ⟨some 7, .assign (.val (.bool false)), none, 3⟩] false) (.seq (.seq (.region [⟨some 27, .move (.tmp 1), none, 0⟩, ⟨some 28, .len (.slc 2) (.tmp 27), none, 1⟩, ⟨some 29, .move (.val (.int .i64 0)), none, 0⟩] false) (.block 0 (some [0, 5, 6, 7]) (.loop (some [0, 1, 5, 6, 7, 27, 28, 29]) (.seq (.region [⟨some 30, .bin (.lss) (.tmp 29) (.tmp 28), none, 0⟩] false) (.seq (.cond (.tmp 30) (.skip) (.exit 0)) (.seq (.block 1 none (.seq (.region [⟨some 31, .indexAddr none 2 (.tmp 27) (.tmp 29), none, 0⟩, ⟨some 32, .load true 2 (.tmp 31), none, 1⟩, ⟨some 9, .alloc 4 [(.int .i64 0), (.int .u64 0)], none, 0⟩, ⟨none, .store 2 (.tmp 9) (.tmp 32), none, 7⟩] false) (.seq (.region [⟨some 34, .move (.tmp 6), none, 0⟩, ⟨some 35, .fieldAddr 1 (.tmp 9), none, 0⟩, ⟨some 36, .load false 1 (.tmp 35), none, 2⟩, ⟨some 37, .call true 42 5 [(.tmp 34), (.tmp 36)], none, 7⟩, ⟨some 33, .move (.tmp 37), none, 15⟩, ⟨some 38, .extract (.tmp 33) 0, none, 31⟩, ⟨some 39, .extract (.tmp 33) 1, none, 31⟩, ⟨some 10, .assign (.tmp 38), none, 63⟩, ⟨some 11, .assign (.tmp 39), none, 255⟩] false) (.seq (.seq (.region [⟨some 40, .fieldAddr 0 (.tmp 9), none, 0⟩, ⟨some 41, .load false 1 (.tmp 40), none, 1⟩, ⟨some 42, .eq false (.num) (.tmp 41) (.val (.int .i64 0)), none, 3⟩] false) (.cond (.tmp 42) (.seq (.seq (.region [⟨some 43, .move (.tmp 7), none, 0⟩, ⟨some 44, .move (.tmp 43), none, 1⟩, ⟨some 45, .move (.tmp 11), some (44, false), 3⟩, ⟨some 46, .bin (.leq) (.tmp 45) (.val (.int .i64 0)), some (44, false), 7⟩, ⟨some 47, .pick (.tmp 44) (.val (.bool true)) (.tmp 46), none, 15⟩] false) (.cond (.tmp 47) (.seq (.region [⟨some 7, .assign (.val (.bool true)), none, 0⟩] false) (.region [⟨some 10, .assign (.val (.int .u64 0)), none, 0⟩] false)) (.region [⟨some 48, .move (.tmp 6), none, 0⟩, ⟨some 49, .move (.tmp 11), none, 0⟩, ⟨some 50, .slice (.slc 1) (.tmp 48) (some (.tmp 49)) none none, none, 3⟩, ⟨some 6, .assign (.tmp 50), none, 7⟩] false))) (.seq (.seq (.region [⟨some 51, .move (.tmp 5), none, 0⟩, ⟨some 52, .fieldAddr 1 (.tmp 9), none, 0⟩, ⟨some 53, .load false 1 (.tmp 52), none, 2⟩, ⟨some 54, .call false 40 5 [(.tmp 51), (.tmp 53)], none, 7⟩, ⟨some 55, .move (.tmp 10), none, 0⟩, ⟨some 56, .eq true (.num) (.tmp 54) (.tmp 55), none, 31⟩, ⟨some 57, .move (.tmp 56), none, 63⟩, ⟨some 58, .move (.tmp 5), some (57, false), 127⟩, ⟨some 59, .call false 43 5 [(.tmp 58)], some (57, false), 255⟩, ⟨some 60, .move (.tmp 7), some (57, false), 127⟩, ⟨some 61, .eq true (.bool) (.tmp 59) (.tmp 60), some (57, false), 1023⟩, ⟨some 62, .pick (.tmp 57) (.val (.bool true)) (.tmp 61), none, 2047⟩] false) (.cond (.tmp 62) (.seq (.region [⟨some 4, .assign (.val (.bool false)), none, 0⟩] false) (.ret)) (.skip))) (.exit 1))) (.skip))) (.seq (.region [⟨some 63, .fieldAddr 1 (.tmp 9), none, 0⟩, ⟨some 64, .load false 1 (.tmp 63), none, 1⟩, ⟨some 65, .conv (.int (.i64)) (.tmp 64), none, 3⟩, ⟨some 12, .assign (.tmp 65), none, 7⟩] false) (.seq (.region [⟨some 67, .move (.tmp 6), none, 0⟩, ⟨some 68, .move (.tmp 12), none, 0⟩, ⟨some 69, .max [(.tmp 68), (.val (.int .i64 0))], none, 2⟩, ⟨some 70, .conv (.int (.u64)) (.tmp 69), none, 6⟩, ⟨some 71, .call true 42 5 [(.tmp 67), (.tmp 70)], none, 15⟩, ⟨some 66, .move (.tmp 71), none, 31⟩, ⟨some 72, .extract (.tmp 66) 0, none, 63⟩, ⟨some 73, .extract (.tmp 66) 1, none, 63⟩, ⟨some 10, .assign (.tmp 72), none, 127⟩, ⟨some 11, .assign (.tmp 73), none, 511⟩] false) (.seq (.region [⟨some 13, .assign (.val (.str [])), none, 0⟩] false) (.seq (.seq (.region [⟨some 74, .move (.tmp 7), none, 0⟩, ⟨some 75, .move (.tmp 74), none, 1⟩, ⟨some 76, .move (.tmp 12), some (75, false), 3⟩, ⟨some 77, .bin (.lss) (.tmp 76) (.val (.int .i64 0)), some (75, false), 7⟩, ⟨some 78, .pick (.tmp 75) (.val (.bool true)) (.tmp 77), none, 15⟩, ⟨some 79, .move (.tmp 78), none, 31⟩, ⟨some 80, .move (.tmp 11), some (79, false), 63⟩, ⟨some 81, .bin (.leq) (.tmp 80) (.val (.int .i64 0)), some (79, false), 127⟩, ⟨some 82, .pick (.tmp 79) (.val (.bool true)) (.tmp 81), none, 255⟩, ⟨some 83, .move (.tmp 82), none, 511⟩, ⟨some 84, .move (.tmp 10), some (83, false), 1023⟩, ⟨some 85, .move (.tmp 6), some (83, false), 1023⟩, ⟨some 86, .len (.slc 1) (.tmp 85), some (83, false), 3071⟩, ⟨some 87, .move (.tmp 11), some (83, false), 1023⟩, ⟨some 88, .bin (.sub) (.tmp 86) (.tmp 87), some (83, false), 15359⟩, ⟨some 89, .conv (.int (.u64)) (.tmp 88), some (83, false), 31743⟩, ⟨some 90, .bin (.gtr) (.tmp 84) (.tmp 89), some (83, false), 65535⟩, ⟨some 91, .pick (.tmp 83) (.val (.bool true)) (.tmp 90), none, 131071⟩] false) (.cond (.tmp 91) (.region [⟨some 7, .assign (.val (.bool true)), none, 0⟩] false) (.seq (.region [⟨some 92, .move (.tmp 6), none, 0⟩, ⟨some 93, .move (.tmp 11), none, 0⟩, ⟨some 94, .move (.tmp 11), none, 0⟩, ⟨some 95, .move (.tmp 10), none, 0⟩, ⟨some 96, .conv (.int (.i64)) (.tmp 95), none, 8⟩, ⟨some 97, .bin (.add) (.tmp 94) (.tmp 96), none, 28⟩, ⟨some 98, .slice (.slc 1) (.tmp 92) (some (.tmp 93)) (some (.tmp 97)) none, none, 63⟩, ⟨some 99, .conv (.text) (.tmp 98), none, 127⟩, ⟨some 13, .assign (.tmp 99), none, 255⟩] false) (.region [⟨some 100, .move (.tmp 6), none, 0⟩, ⟨some 101, .move (.tmp 11), none, 0⟩, ⟨some 102, .move (.tmp 10), none, 0⟩, ⟨some 103, .conv (.int (.i64)) (.tmp 102), none, 4⟩, ⟨some 104, .bin (.add) (.tmp 101) (.tmp 103), none, 14⟩, ⟨some 105, .slice (.slc 1) (.tmp 100) (some (.tmp 104)) none none, none, 31⟩, ⟨some 6, .assign (.tmp 105), none, 63⟩] false)))) (.seq (.region [⟨some 106, .move (.tmp 5), none, 0⟩, ⟨some 107, .move (.tmp 12), none, 0⟩, ⟨some 108, .call false 44 5 [(.tmp 106), (.tmp 107)], none, 3⟩, ⟨some 109, .move (.tmp 13), none, 0⟩, ⟨some 110, .eq true (.num) (.tmp 108) (.tmp 109), none, 15⟩, ⟨some 111, .move (.tmp 110), none, 31⟩, ⟨some 112, .move (.tmp 5), some (111, false), 63⟩, ⟨some 113, .call false 43 5 [(.tmp 112)], some (111, false), 127⟩, ⟨some 114, .move (.tmp 7), some (111, false), 63⟩, ⟨some 115, .eq true (.bool) (.tmp 113) (.tmp 114), some (111, false), 511⟩, ⟨some 116, .pick (.tmp 111) (.val (.bool true)) (.tmp 115), none, 1023⟩] false) (.cond (.tmp 116) (.seq (.region [⟨some 4, .assign (.val (.bool false)), none, 0⟩] false) (.ret)) (.skip))))))))))) (.region [⟨some 117, .bin (.add) (.tmp 29) (.val (.int .i64 1)), none, 0⟩, ⟨some 29, .move (.tmp 117), none, 1⟩] false))))))) (.seq (.region [⟨some 118, .move (.tmp 5), none, 0⟩, ⟨some 119, .call false 41 5 [(.tmp 118)], none, 1⟩, ⟨some 120, .move (.tmp 7), none, 0⟩, ⟨some 121, .un (.not) (.tmp 120), none, 4⟩, ⟨some 122, .move (.tmp 121), none, 15⟩, ⟨some 123, .move (.tmp 6), some (122, true), 31⟩, ⟨some 124, .len (.slc 1) (.tmp 123), some (122, true), 63⟩, ⟨some 125, .eq false (.num) (.tmp 124) (.val (.int .i64 0)), some (122, true), 127⟩, ⟨some 126, .pick (.tmp 122) (.tmp 125) (.val (.bool false)), none, 255⟩, ⟨some 127, .eq false (.bool) (.tmp 119) (.tmp 126), none, 511⟩, ⟨some 4, .assign (.tmp 127), none, 1023⟩] false) (.ret)))))))
abbrev v13 : VFunc := { nparams := 2, ntmps := 128, nsites := 5, results := [.tmp 4], body := b13 }
abbrev stepV (a : Int × Nat) : V := .agg [.int .i64 a.1, .int .u64 (a.2 : Int)]
structure RS where
  i : Nat
  rest : List Nat
  rl : List Nat
  bad : Bool
structure RSok (b : List Nat) (steps : List (Int × Nat)) (a : RS) : Prop where
  i : a.i ≤ steps.length
  l1 : a.rest.length ≤ 500
  l2 : a.rl.length ≤ 500
  b1 : ∀ x ∈ a.rest, x < 256
  b2 : ∀ x ∈ a.rl, x < 256
  e : a.bad = false → a.rl = a.rest
def SR (b : List Nat) (steps : List (Int × Nat)) (a : RS) : St :=
  ⟨(.isl 0 1 (byN b) :: .isl 0 2 (steps.map stepV) :: .gone 0 :: .gone 0 :: .gone 0 :: p0 :: .isl 0 1 (byN a.rest) :: .bool a.bad :: .gone 0 :: .gone 0 :: .gone 0 :: .gone 0 :: .gone 0 :: .gone 0 :: .gone 0 :: .gone 0 :: .gone 0 :: .gone 0 :: .gone 0 :: .gone 0 :: .gone 0 :: .gone 0 :: .gone 0 :: .gone 0 :: .gone 0 :: .gone 0 :: .gone 0 :: .isl 0 2 (steps.map stepV) :: .int .i64 steps.length :: .int .i64 (a.i : Nat) :: .gone 0 :: .gone 0 :: .gone 0 :: .gone 0 :: .gone 0 :: .gone 0 :: .gone 0 :: .gone 0 :: .gone 0 :: .gone 0 :: .gone 0 :: .gone 0 :: .gone 0 :: .gone 0 :: .gone 0 :: .gone 0 :: .gone 0 :: .gone 0 :: .gone 0 :: .gone 0 :: .gone 0 :: .gone 0 :: .gone 0 :: .gone 0 :: .gone 0 :: .gone 0 :: .gone 0 :: .gone 0 :: .gone 0 :: .gone 0 :: .gone 0 :: .gone 0 :: .gone 0 :: .gone 0 :: .gone 0 :: .gone 0 :: .gone 0 :: .gone 0 :: .gone 0 :: .gone 0 :: .gone 0 :: .gone 0 :: .gone 0 :: .gone 0 :: .gone 0 :: .gone 0 :: .gone 0 :: .gone 0 :: .gone 0 :: .gone 0 :: .gone 0 :: .gone 0 :: .gone 0 :: .gone 0 :: .gone 0 :: .gone 0 :: .gone 0 :: .gone 0 :: .gone 0 :: .gone 0 :: .gone 0 :: .gone 0 :: .gone 0 :: .gone 0 :: .gone 0 :: .gone 0 :: .gone 0 :: .gone 0 :: .gone 0 :: .gone 0 :: .gone 0 :: .gone 0 :: .gone 0 :: .gone 0 :: .gone 0 :: .gone 0 :: .gone 0 :: .gone 0 :: .gone 0 :: .gone 0 :: .gone 0 :: .gone 0 :: .gone 0 :: .gone 0 :: .gone 0 :: .gone 0 :: .gone 0 :: .gone 0 :: .gone 0 :: .gone 0 :: .gone 0 :: .gone 0 :: .gone 0 :: .gone 0 :: .gone 0 :: .gone 0 :: .gone 0 :: .gone 0 :: []), [some (rd a.rl a.bad), none, none, none, none]⟩
def bodyR : VCode := (.seq (.region [⟨some 30, .bin (.lss) (.tmp 29) (.tmp 28), none, 0⟩] false) (.seq (.cond (.tmp 30) (.skip) (.exit 0)) (.seq (.block 1 none (.seq (.region [⟨some 31, .indexAddr none 2 (.tmp 27) (.tmp 29), none, 0⟩, ⟨some 32, .load true 2 (.tmp 31), none, 1⟩, ⟨some 9, .alloc 4 [(.int .i64 0), (.int .u64 0)], none, 0⟩, ⟨none, .store 2 (.tmp 9) (.tmp 32), none, 7⟩] false) (.seq (.region [⟨some 34, .move (.tmp 6), none, 0⟩, ⟨some 35, .fieldAddr 1 (.tmp 9), none, 0⟩, ⟨some 36, .load false 1 (.tmp 35), none, 2⟩, ⟨some 37, .call true 42 5 [(.tmp 34), (.tmp 36)], none, 7⟩, ⟨some 33, .move (.tmp 37), none, 15⟩, ⟨some 38, .extract (.tmp 33) 0, none, 31⟩, ⟨some 39, .extract (.tmp 33) 1, none, 31⟩, ⟨some 10, .assign (.tmp 38), none, 63⟩, ⟨some 11, .assign (.tmp 39), none, 255⟩] false) (.seq (.seq (.region [⟨some 40, .fieldAddr 0 (.tmp 9), none, 0⟩, ⟨some 41, .load false 1 (.tmp 40), none, 1⟩, ⟨some 42, .eq false (.num) (.tmp 41) (.val (.int .i64 0)), none, 3⟩] false) (.cond (.tmp 42) (.seq (.seq (.region [⟨some 43, .move (.tmp 7), none, 0⟩, ⟨some 44, .move (.tmp 43), none, 1⟩, ⟨some 45, .move (.tmp 11), some (44, false), 3⟩, ⟨some 46, .bin (.leq) (.tmp 45) (.val (.int .i64 0)), some (44, false), 7⟩, ⟨some 47, .pick (.tmp 44) (.val (.bool true)) (.tmp 46), none, 15⟩] false) (.cond (.tmp 47) (.seq (.region [⟨some 7, .assign (.val (.bool true)), none, 0⟩] false) (.region [⟨some 10, .assign (.val (.int .u64 0)), none, 0⟩] false)) (.region [⟨some 48, .move (.tmp 6), none, 0⟩, ⟨some 49, .move (.tmp 11), none, 0⟩, ⟨some 50, .slice (.slc 1) (.tmp 48) (some (.tmp 49)) none none, none, 3⟩, ⟨some 6, .assign (.tmp 50), none, 7⟩] false))) (.seq (.seq (.region [⟨some 51, .move (.tmp 5), none, 0⟩, ⟨some 52, .fieldAddr 1 (.tmp 9), none, 0⟩, ⟨some 53, .load false 1 (.tmp 52), none, 2⟩, ⟨some 54, .call false 40 5 [(.tmp 51), (.tmp 53)], none, 7⟩, ⟨some 55, .move (.tmp 10), none, 0⟩, ⟨some 56, .eq true (.num) (.tmp 54) (.tmp 55), none, 31⟩, ⟨some 57, .move (.tmp 56), none, 63⟩, ⟨some 58, .move (.tmp 5), some (57, false), 127⟩, ⟨some 59, .call false 43 5 [(.tmp 58)], some (57, false), 255⟩, ⟨some 60, .move (.tmp 7), some (57, false), 127⟩, ⟨some 61, .eq true (.bool) (.tmp 59) (.tmp 60), some (57, false), 1023⟩, ⟨some 62, .pick (.tmp 57) (.val (.bool true)) (.tmp 61), none, 2047⟩] false) (.cond (.tmp 62) (.seq (.region [⟨some 4, .assign (.val (.bool false)), none, 0⟩] false) (.ret)) (.skip))) (.exit 1))) (.skip))) (.seq (.region [⟨some 63, .fieldAddr 1 (.tmp 9), none, 0⟩, ⟨some 64, .load false 1 (.tmp 63), none, 1⟩, ⟨some 65, .conv (.int (.i64)) (.tmp 64), none, 3⟩, ⟨some 12, .assign (.tmp 65), none, 7⟩] false) (.seq (.region [⟨some 67, .move (.tmp 6), none, 0⟩, ⟨some 68, .move (.tmp 12), none, 0⟩, ⟨some 69, .max [(.tmp 68), (.val (.int .i64 0))], none, 2⟩, ⟨some 70, .conv (.int (.u64)) (.tmp 69), none, 6⟩, ⟨some 71, .call true 42 5 [(.tmp 67), (.tmp 70)], none, 15⟩, ⟨some 66, .move (.tmp 71), none, 31⟩, ⟨some 72, .extract (.tmp 66) 0, none, 63⟩, ⟨some 73, .extract (.tmp 66) 1, none, 63⟩, ⟨some 10, .assign (.tmp 72), none, 127⟩, ⟨some 11, .assign (.tmp 73), none, 511⟩] false) (.seq (.region [⟨some 13, .assign (.val (.str [])), none, 0⟩] false) (.seq (.seq (.region [⟨some 74, .move (.tmp 7), none, 0⟩, ⟨some 75, .move (.tmp 74), none, 1⟩, ⟨some 76, .move (.tmp 12), some (75, false), 3⟩, ⟨some 77, .bin (.lss) (.tmp 76) (.val (.int .i64 0)), some (75, false), 7⟩, ⟨some 78, .pick (.tmp 75) (.val (.bool true)) (.tmp 77), none, 15⟩, ⟨some 79, .move (.tmp 78), none, 31⟩, ⟨some 80, .move (.tmp 11), some (79, false), 63⟩, ⟨some 81, .bin (.leq) (.tmp 80) (.val (.int .i64 0)), some (79, false), 127⟩, ⟨some 82, .pick (.tmp 79) (.val (.bool true)) (.tmp 81), none, 255⟩, ⟨some 83, .move (.tmp 82), none, 511⟩, ⟨some 84, .move (.tmp 10), some (83, false), 1023⟩, ⟨some 85, .move (.tmp 6), some (83, false), 1023⟩, ⟨some 86, .len (.slc 1) (.tmp 85), some (83, false), 3071⟩, ⟨some 87, .move (.tmp 11), some (83, false), 1023⟩, ⟨some 88, .bin (.sub) (.tmp 86) (.tmp 87), some (83, false), 15359⟩, ⟨some 89, .conv (.int (.u64)) (.tmp 88), some (83, false), 31743⟩, ⟨some 90, .bin (.gtr) (.tmp 84) (.tmp 89), some (83, false), 65535⟩, ⟨some 91, .pick (.tmp 83) (.val (.bool true)) (.tmp 90), none, 131071⟩] false) (.cond (.tmp 91) (.region [⟨some 7, .assign (.val (.bool true)), none, 0⟩] false) (.seq (.region [⟨some 92, .move (.tmp 6), none, 0⟩, ⟨some 93, .move (.tmp 11), none, 0⟩, ⟨some 94, .move (.tmp 11), none, 0⟩, ⟨some 95, .move (.tmp 10), none, 0⟩, ⟨some 96, .conv (.int (.i64)) (.tmp 95), none, 8⟩, ⟨some 97, .bin (.add) (.tmp 94) (.tmp 96), none, 28⟩, ⟨some 98, .slice (.slc 1) (.tmp 92) (some (.tmp 93)) (some (.tmp 97)) none, none, 63⟩, ⟨some 99, .conv (.text) (.tmp 98), none, 127⟩, ⟨some 13, .assign (.tmp 99), none, 255⟩] false) (.region [⟨some 100, .move (.tmp 6), none, 0⟩, ⟨some 101, .move (.tmp 11), none, 0⟩, ⟨some 102, .move (.tmp 10), none, 0⟩, ⟨some 103, .conv (.int (.i64)) (.tmp 102), none, 4⟩, ⟨some 104, .bin (.add) (.tmp 101) (.tmp 103), none, 14⟩, ⟨some 105, .slice (.slc 1) (.tmp 100) (some (.tmp 104)) none none, none, 31⟩, ⟨some 6, .assign (.tmp 105), none, 63⟩] false)))) (.seq (.region [⟨some 106, .move (.tmp 5), none, 0⟩, ⟨some 107, .move (.tmp 12), none, 0⟩, ⟨some 108, .call false 44 5 [(.tmp 106), (.tmp 107)], none, 3⟩, ⟨some 109, .move (.tmp 13), none, 0⟩, ⟨some 110, .eq true (.num) (.tmp 108) (.tmp 109), none, 15⟩, ⟨some 111, .move (.tmp 110), none, 31⟩, ⟨some 112, .move (.tmp 5), some (111, false), 63⟩, ⟨some 113, .call false 43 5 [(.tmp 112)], some (111, false), 127⟩, ⟨some 114, .move (.tmp 7), some (111, false), 63⟩, ⟨some 115, .eq true (.bool) (.tmp 113) (.tmp 114), some (111, false), 511⟩, ⟨some 116, .pick (.tmp 111) (.val (.bool true)) (.tmp 115), none, 1023⟩] false) (.cond (.tmp 116) (.seq (.region [⟨some 4, .assign (.val (.bool false)), none, 0⟩] false) (.ret)) (.skip))))))))))) (.region [⟨some 117, .bin (.add) (.tmp 29) (.val (.int .i64 1)), none, 0⟩, ⟨some 29, .move (.tmp 117), none, 1⟩] false))))
section
variable (G : VProg)
/-- What is known of the functions. -/
structure Rd : Prop where
  take : ∀ (l : List Nat) (L : Nat), l.length < 2 ^ 40 → (∀ x ∈ l, x < 256) → L < 2 ^ 64 → Vq.lim G 42 [.isl 0 1 (byN l), .int .u64 L] [] = some (.tup [.int .u64 (dec L 0 0 l).1, .int .i64 (dec L 0 0 l).2], [])
  bad : ∀ l b, Vq.lim G 43 [p0] [rd l b] = some (.bool b, [rd l b])
  done : ∀ l b, Vq.lim G 41 [p0] [rd l b] = some (.bool (!b && ((l.length : Int) == 0)), [rd l b])
  num : ∀ (l : List Nat) (b : Bool) (L : Nat), l.length < 2 ^ 40 → (∀ x ∈ l, x < 256) → L < 2 ^ 64 → Vq.lim G 40 [p0, .int .u64 L] [rd l b] = some (.int .u64 (numR L l b).1, [rd (numR L l b).2.1 (numR L l b).2.2])
  text : ∀ (l : List Nat) (b : Bool) (L : Int), l.length < 2 ^ 40 → (∀ x ∈ l, x < 256) → L < 9223372036854775808 → Vq.lim G 44 [p0, .int .i64 L] [rd l b] = some (.str (txtR L l b).1, [rd (txtR L l b).2.1 (txtR L l b).2.2])
variable {G}
theorem num_round (hR : Rd G) (b : List Nat) (steps : List (Int × Nat)) (hs : steps.length ≤ 60) (hm : ∀ s ∈ steps, s.2 < 2 ^ 64) (a : RS) (ha : RSok b steps a) (hi : a.i < steps.length) (hk : (steps[a.i].1 == 0) = true) (Q : Out → St → Prop) (J : RS → Prop) (hJ : ∀ c, RSok b steps c → c.i = a.i + 1 → J c) :
    WL G 0 bodyR (SR b steps a) (Qrnd (some [0, 1, 5, 6, 7, 27, 28, 29]) 0 (SR b steps) J Q) := by
  obtain ⟨i, rest, rl, bad⟩ := a
  obtain ⟨h1, h2, h3, h4, h5, h6⟩ := ha
  simp only at h1 h2 h3 h4 h5 h6 hi hJ hk
  obtain ⟨⟨kd, L⟩, hst⟩ : ∃ x, x = steps[i] := ⟨_, rfl⟩
  have hL : L < 2 ^ 64 := by have := hm _ (List.getElem_mem hi); rw [← hst] at this; exact this
  rw [← hst] at hk
  simp only at hk
  have hg : (steps.map stepV)[i]? = some (stepV (kd, L)) := by rw [hst]; simp [hi]
  have hlt : decide ((i : Int) < (steps.length : Int)) = true := by simp; omega
  have hadd := inc64 i (by omega)
  have F := And.intro hlt (And.intro hadd (And.intro hg hk))
  have t1 := hR.take rest L (by omega) h4 hL
  have t2 := hR.num rl bad L (by omega) h5 hL
  have t3 := hR.bad
  clear hm hst
  unfold SR bodyR
  cases bad
  · obtain rfl := h6 rfl
    rcases dec_cases L rl 0 0 with h | h | ⟨N, u, h, hu1, hu2, hu3⟩
    · have hn : numR L rl false = (0, rl, true) := by unfold numR; rw [h]; rfl
      rw [h] at t1
      rw [hn] at t2
      have t4 := t3 rl true
      have hc : decide ((-1 : Int) ≤ 0) = true := rfl
      refine runV (And.intro hc F) trivial ?_
      exact Qr_n ⟨i + 1, rl, rl, true⟩ (by kernel_rfl) (hJ _ ⟨by simp only; omega, h2, h3, h4, h5, fun h => by cases h⟩ rfl)
    · have hn : numR L rl false = (0, rl, true) := by unfold numR; rw [h]; rfl
      rw [h] at t1
      rw [hn] at t2
      have t4 := t3 rl true
      have hc : decide ((0 : Int) ≤ 0) = true := rfl
      refine runV (And.intro hc F) trivial ?_
      exact Qr_n ⟨i + 1, rl, rl, true⟩ (by kernel_rfl) (hJ _ ⟨by simp only; omega, h2, h3, h4, h5, fun h => by cases h⟩ rfl)
    · have hn : numR L rl false = ((N : Int), rl.drop u, false) := by unfold numR; rw [h]; simp only [Bool.false_eq_true, false_or, Int.toNat_natCast]; rw [if_neg (by omega)]
      rw [h] at t1
      rw [hn] at t2
      have t4 := t3 (rl.drop u) false
      have hu : u ≤ rl.length := by omega
      have hc : decide ((u : Int) ≤ 0) = false := by simp; omega
      have e1 : List.take (rl.length - u) (List.drop u (byN rl)) = byN (rl.drop u) := by rw [byN_sub, List.take_of_length_le (by simp)]
      refine runV (And.intro hc (And.intro e1 F)) trivial ?_
      exact Qr_n ⟨i + 1, rl.drop u, rl.drop u, false⟩ (by kernel_rfl) (hJ _ ⟨by simp only; omega, by simp; omega, by simp; omega, fun x hx => h4 x (List.mem_of_mem_drop hx), fun x hx => h4 x (List.mem_of_mem_drop hx), fun _ => rfl⟩ rfl)
  · have hn : numR L rl true = (0, rl, true) := rfl
    rw [hn] at t2
    have t4 := t3 rl true
    refine runV F trivial ?_
    exact Qr_n ⟨i + 1, rest, rl, true⟩ (by kernel_rfl) (hJ _ ⟨by simp only; omega, h2, h3, h4, h5, fun h => by cases h⟩ rfl)
end
end P1
end Go.Vq

namespace Go.Vq
namespace P1
open Go
set_option maxRecDepth 1000000
set_option maxHeartbeats 8000000
section
variable {G : VProg}
theorem text_round (hR : Rd G) (b : List Nat) (steps : List (Int × Nat)) (hs : steps.length ≤ 60) (hm : ∀ s ∈ steps, s.2 < 2 ^ 64) (a : RS) (ha : RSok b steps a) (hi : a.i < steps.length) (hk : (steps[a.i].1 == 0) = false) (Q : Out → St → Prop) (J : RS → Prop) (hJ : ∀ c, RSok b steps c → c.i = a.i + 1 → J c) :
    WL G 0 bodyR (SR b steps a) (Qrnd (some [0, 1, 5, 6, 7, 27, 28, 29]) 0 (SR b steps) J Q) := by
  obtain ⟨i, rest, rl, bad⟩ := a
  obtain ⟨h1, h2, h3, h4, h5, h6⟩ := ha
  simp only at h1 h2 h3 h4 h5 h6 hi hJ hk
  obtain ⟨⟨kd, M⟩, hst⟩ : ∃ x, x = steps[i] := ⟨_, rfl⟩
  have hM : M < 2 ^ 64 := by have := hm _ (List.getElem_mem hi); rw [← hst] at this; exact this
  rw [← hst] at hk
  simp only at hk
  have hg : (steps.map stepV)[i]? = some (stepV (kd, M)) := by rw [hst]; simp [hi]
  have hlt : decide ((i : Int) < (steps.length : Int)) = true := by simp; omega
  have hadd := inc64 i (by omega)
  obtain ⟨mi, hmi⟩ : ∃ mi, IntKind.i64.wrap (M : Int) = mi := ⟨_, rfl⟩
  have hmi2 : mi < 9223372036854775808 := by
    rw [← hmi]; simp only [IntKind.wrap, IntKind.bits, IntKind.signed]; simp; omega
  obtain ⟨L, hLd⟩ : ∃ L, L = (max mi 0).toNat := ⟨_, rfl⟩
  have hL : L < 2 ^ 64 := by omega
  have hw : IntKind.u64.wrap (L : Int) = (L : Int) := wrap64 _ (by omega)
  have hmx : (if mi < 0 then 0 else mi) = (L : Int) := by rw [hLd]; split <;> omega
  obtain ⟨bn, hneg⟩ : ∃ bn, decide (mi < 0) = bn := ⟨_, rfl⟩
  have F := And.intro hlt (And.intro hadd (And.intro hg (And.intro hk (And.intro hmi (And.intro hw (And.intro hmx hneg))))))
  have t0 := hR.take rest M (by omega) h4 hM
  have t1 := hR.take rest L (by omega) h4 hL
  have t2 := hR.text rl bad mi (by omega) h5 hmi2
  have t3 := hR.bad
  clear hm hst
  have bads : ∀ (b' : Bool) (l : List Nat), numR L l (b' || bn) = (0, l, true) → txtR mi l b' = ([], l, true) := by
    intro b' l h
    unfold txtR
    rw [← hLd, hneg, h]; rfl
  unfold SR bodyR
  cases bad
  · obtain rfl := h6 rfl
    cases bn
    · rcases dec_cases L rl 0 0 with h | h | ⟨N, u, h, hu1, hu2, hu3⟩
      · have hn := bads false rl (by unfold numR; rw [h]; rfl)
        rw [h] at t1
        rw [hn] at t2
        have t4 := t3 rl true
        have hc : decide ((-1 : Int) ≤ 0) = true := rfl
        refine runV (And.intro hc F) trivial ?_
        exact Qr_n ⟨i + 1, rl, rl, true⟩ (by kernel_rfl) (hJ _ ⟨by simp only; omega, h2, h3, h4, h5, fun h => by cases h⟩ rfl)
      · have hn := bads false rl (by unfold numR; rw [h]; rfl)
        rw [h] at t1
        rw [hn] at t2
        have t4 := t3 rl true
        have hc : decide ((0 : Int) ≤ 0) = true := rfl
        refine runV (And.intro hc F) trivial ?_
        exact Qr_n ⟨i + 1, rl, rl, true⟩ (by kernel_rfl) (hJ _ ⟨by simp only; omega, h2, h3, h4, h5, fun h => by cases h⟩ rfl)
      · have hnum : numR L rl false = ((N : Int), rl.drop u, false) := by unfold numR; rw [h]; simp only [Bool.false_eq_true, false_or, Int.toNat_natCast]; rw [if_neg (by omega)]
        rw [h] at t1
        have hu : u ≤ rl.length := by omega
        have hc : decide ((u : Int) ≤ 0) = false := by simp; omega
        have hsub : IntKind.i64.wrap ((rl.length : Int) - (u : Int)) = ((rl.length - u : Nat) : Int) := by rw [wrapi64 _ (by omega) (by omega)]; omega
        have hsub2 : IntKind.u64.wrap ((rl.length - u : Nat) : Int) = ((rl.length - u : Nat) : Int) := wrap64 _ (by omega)
        replace F := And.intro hc (And.intro hsub (And.intro hsub2 F))
        by_cases hgt : rl.length - u < N
        · have hn : txtR mi rl false = ([], rl.drop u, true) := by
            unfold txtR
            rw [← hLd, hneg]
            simp only [Bool.or_false, hnum]
            rw [if_pos (.inr (by simp; omega))]
          rw [hn] at t2
          have t4 := t3 (rl.drop u) true
          have hc2 : decide (((rl.length - u : Nat) : Int) < (N : Int)) = true := by simp; omega
          refine runV (And.intro hc2 F) trivial ?_
          exact Qr_n ⟨i + 1, rl, rl.drop u, true⟩ (by kernel_rfl) (hJ _ ⟨by simp only; omega, h2, by simp; omega, h4, fun x hx => h4 x (List.mem_of_mem_drop hx), fun h => by cases h⟩ rfl)
        · have hn : txtR mi rl false = (strN ((rl.drop u).take N), (rl.drop u).drop N, false) := by
            unfold txtR
            rw [← hLd, hneg]
            simp only [Bool.or_false, hnum, Int.toNat_natCast]
            rw [if_neg (by simp; omega)]
          rw [hn] at t2
          have t4 := t3 ((rl.drop u).drop N) false
          have hc2 : decide (((rl.length - u : Nat) : Int) < (N : Int)) = false := by simp; omega
          have hN : IntKind.i64.wrap (N : Int) = (N : Int) := wrapi64 _ (by omega) (by omega)
          have hs1 : IntKind.i64.wrap ((u : Int) + (N : Int)) = ((u + N : Nat) : Int) := by rw [wrapi64 _ (by omega) (by omega)]; omega
          have e1 : List.take (u + N - u) (List.drop u (byN rl)) = byN ((rl.drop u).take N) := by rw [byN_sub]; congr 2; omega
          have e2 : List.take (rl.length - (u + N)) (List.drop (u + N) (byN rl)) = byN ((rl.drop u).drop N) := by rw [byN_sub, List.take_of_length_le (by simp), List.drop_drop]
          have e3 : textV (byN ((rl.drop u).take N)) = some (strN ((rl.drop u).take N)) := textV_by _
          refine runV (And.intro hc2 (And.intro hN (And.intro hs1 (And.intro e1 (And.intro e2 (And.intro e3 F)))))) trivial ?_
          exact Qr_n ⟨i + 1, (rl.drop u).drop N, (rl.drop u).drop N, false⟩ (by kernel_rfl) (hJ _ ⟨by simp only; omega, by simp; omega, by simp; omega, fun x hx => h4 x (List.mem_of_mem_drop (List.mem_of_mem_drop hx)), fun x hx => h4 x (List.mem_of_mem_drop (List.mem_of_mem_drop hx)), fun _ => rfl⟩ rfl)
    · have hn := bads false rl rfl
      rw [hn] at t2
      have t4 := t3 rl true
      refine runV F trivial ?_
      exact Qr_n ⟨i + 1, rl, rl, true⟩ (by kernel_rfl) (hJ _ ⟨by simp only; omega, h2, h3, h4, h5, fun h => by cases h⟩ rfl)
  · have hn := bads true rl rfl
    rw [hn] at t2
    have t4 := t3 rl true
    refine runV F trivial ?_
    exact Qr_n ⟨i + 1, rest, rl, true⟩ (by kernel_rfl) (hJ _ ⟨by simp only; omega, h2, h3, h4, h5, fun h => by cases h⟩ rfl)
theorem reads (hG : G 13 = some (.code v13)) (ha : Vq.lim G 31 [] [] = some (.bool true, [])) (hR : Rd G) (hnew : ∀ l : List Nat, l.length < 2 ^ 40 → Vq.lim G 39 [.isl 0 1 (byN l)] [] = some (p0, [rd l false]))
    (b : List Nat) (hb : ∀ x ∈ b, x < 256) (steps : List (Int × Nat)) (hm : ∀ s ∈ steps, s.2 < 2 ^ 64) : Vq.lim G 13 [.isl 0 1 (byN b), .isl 0 2 (steps.map stepV)] [] = some (.bool true, []) := by
  cases hb1 : decide (500 < (b.length : Int))
  · cases hb2 : decide (60 < (steps.length : Int))
    · have hs : steps.length ≤ 60 := by simp at hb2; omega
      have hl : b.length ≤ 500 := by simp at hb1; omega
      have hn := hnew b (by omega)
      refine lim_fun hG (h := runV (And.intro hb1 hb2) trivial ?_)
      refine WL_loop (SR b steps) (RSok b steps) (fun a => steps.length - a.i) ?_ ⟨0, b, b, false⟩ _ ⟨Nat.zero_le _, hl, hl, hb, hb, fun _ => rfl⟩ (by kernel_rfl)
      intro a ha
      by_cases hi : a.i < steps.length
      · cases hk : (steps[a.i].1 == 0)
        · exact text_round hR b steps hs hm a ha hi hk _ _ fun c hc he => ⟨hc, by omega⟩
        · exact num_round hR b steps hs hm a ha hi hk _ _ fun c hc he => ⟨hc, by omega⟩
      · obtain ⟨i, rest, rl, bad⟩ := a
        obtain ⟨h1, h2, h3, h4, h5, h6⟩ := ha
        simp only at h1 h2 h3 h4 h5 h6 hi
        obtain rfl : i = steps.length := by omega
        have hlt : decide ((steps.length : Int) < (steps.length : Int)) = false := by simp
        have t1 := hR.done rl bad
        unfold SR
        refine runV hlt trivial ?_
        refine Qr_x ?_
        refine Qb_x (σ1 := ⟨(.isl 0 1 (byN b) :: .gone 0 :: .gone 0 :: .gone 0 :: .gone 0 :: p0 :: .isl 0 1 (byN rest) :: .bool bad :: .gone 0 :: .gone 0 :: .gone 0 :: .gone 0 :: .gone 0 :: .gone 0 :: .gone 0 :: .gone 0 :: .gone 0 :: .gone 0 :: .gone 0 :: .gone 0 :: .gone 0 :: .gone 0 :: .gone 0 :: .gone 0 :: .gone 0 :: .gone 0 :: .gone 0 :: .gone 0 :: .gone 0 :: .gone 0 :: .gone 0 :: .gone 0 :: .gone 0 :: .gone 0 :: .gone 0 :: .gone 0 :: .gone 0 :: .gone 0 :: .gone 0 :: .gone 0 :: .gone 0 :: .gone 0 :: .gone 0 :: .gone 0 :: .gone 0 :: .gone 0 :: .gone 0 :: .gone 0 :: .gone 0 :: .gone 0 :: .gone 0 :: .gone 0 :: .gone 0 :: .gone 0 :: .gone 0 :: .gone 0 :: .gone 0 :: .gone 0 :: .gone 0 :: .gone 0 :: .gone 0 :: .gone 0 :: .gone 0 :: .gone 0 :: .gone 0 :: .gone 0 :: .gone 0 :: .gone 0 :: .gone 0 :: .gone 0 :: .gone 0 :: .gone 0 :: .gone 0 :: .gone 0 :: .gone 0 :: .gone 0 :: .gone 0 :: .gone 0 :: .gone 0 :: .gone 0 :: .gone 0 :: .gone 0 :: .gone 0 :: .gone 0 :: .gone 0 :: .gone 0 :: .gone 0 :: .gone 0 :: .gone 0 :: .gone 0 :: .gone 0 :: .gone 0 :: .gone 0 :: .gone 0 :: .gone 0 :: .gone 0 :: .gone 0 :: .gone 0 :: .gone 0 :: .gone 0 :: .gone 0 :: .gone 0 :: .gone 0 :: .gone 0 :: .gone 0 :: .gone 0 :: .gone 0 :: .gone 0 :: .gone 0 :: .gone 0 :: .gone 0 :: .gone 0 :: .gone 0 :: .gone 0 :: .gone 0 :: .gone 0 :: .gone 0 :: .gone 0 :: .gone 0 :: .gone 0 :: .gone 0 :: .gone 0 :: .gone 0 :: .gone 0 :: .gone 0 :: .gone 0 :: .gone 0 :: .gone 0 :: []), [some (rd rl bad), none, none, none, none]⟩) (by kernel_rfl) ?_
        cases bad
        · obtain rfl := h6 rfl
          cases hz : ((rl.length : Int) == 0)
          all_goals
            rw [hz] at t1
            exact runV hz trivial trivial
        · exact runV trivial trivial trivial
    · exact lim_fun hG (h := runV (And.intro hb1 hb2) trivial trivial)
  · exact lim_fun hG (h := runV hb1 trivial trivial)
end
end P1
end Go.Vq

