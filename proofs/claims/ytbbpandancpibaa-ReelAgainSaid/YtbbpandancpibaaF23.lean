/- A machine of values and its tie to the model, and runs of it: part 23 of 18 (no law of Go is stated here). -/
import Derived.Test.YtbbpandancpibaaF22
set_option linter.unusedVariables false
set_option linter.unusedSimpArgs false
set_option linter.unusedSectionVars false
namespace Go.Vq
namespace P1
open Go
set_option maxRecDepth 1000000
set_option maxHeartbeats 8000000
abbrev b33 : VCode := .seq (.region [⟨some 0, .assign (.val (.bool false)), none, 0⟩] false) (.seq (.region [⟨some 8, .call false 13 0 [(.val (.int .i64 8))], none, 0⟩, ⟨some 1, .assign (.tmp 8), none, 1⟩] false) (.seq (.region [⟨some 10, .move (.tmp 1), none, 0⟩, ⟨some 11, .call false 34 4 [(.tmp 10)], none, 1⟩, ⟨some 9, .move (.tmp 11), none, 3⟩, ⟨some 12, .extract (.tmp 9) 0, none, 7⟩, ⟨some 13, .extract (.tmp 9) 1, none, 7⟩, ⟨some 14, .extract (.tmp 9) 2, none, 7⟩, ⟨some 2, .assign (.tmp 12), none, 15⟩, ⟨some 3, .assign (.tmp 13), none, 95⟩, ⟨some 4, .assign (.tmp 14), none, 255⟩] false) (.seq (.seq (.region [⟨some 15, .move (.tmp 2), none, 0⟩, ⟨some 16, .eq false (.ptr) (.tmp 15) (.val .nil), none, 1⟩, ⟨some 17, .move (.tmp 16), none, 3⟩, ⟨some 18, .move (.tmp 2), some (17, false), 7⟩, ⟨some 19, .call false 40 8 [(.tmp 18)], some (17, false), 15⟩, ⟨some 20, .pick (.tmp 17) (.val (.bool true)) (.tmp 19), none, 31⟩, ⟨some 21, .move (.tmp 20), none, 63⟩, ⟨some 22, .move (.tmp 2), some (21, false), 127⟩, ⟨some 23, .buildSlice 1 [(.int .u8 0)] [(0, (.val (.int .u8 97)))], some (21, false), 127⟩, ⟨some 24, .conv (.lit) (.tmp 23), some (21, false), 383⟩, ⟨some 25, .call false 35 8 [(.tmp 22), (.tmp 24)], some (21, false), 1023⟩, ⟨some 26, .eq true (.num) (.tmp 25) (.val (.int .i64 0)), some (21, false), 2047⟩, ⟨some 27, .pick (.tmp 21) (.val (.bool true)) (.tmp 26), none, 4095⟩, ⟨some 28, .move (.tmp 27), none, 8191⟩, ⟨some 29, .move (.tmp 2), some (28, false), 16383⟩, ⟨some 30, .buildSlice 1 [(.int .u8 0)] [(0, (.val (.int .u8 98)))], some (28, false), 16383⟩, ⟨some 31, .conv (.lit) (.tmp 30), some (28, false), 49151⟩, ⟨some 32, .call false 36 8 [(.tmp 29), (.tmp 31)], some (28, false), 131071⟩, ⟨some 33, .eq true (.num) (.tmp 32) (.val (.int .i64 0)), some (28, false), 262143⟩, ⟨some 34, .pick (.tmp 28) (.val (.bool true)) (.tmp 33), none, 524287⟩, ⟨some 35, .move (.tmp 34), none, 1048575⟩, ⟨some 36, .move (.tmp 2), some (35, false), 2097151⟩, ⟨some 37, .call false 37 8 [(.tmp 36)], some (35, false), 4194303⟩, ⟨some 38, .eq true (.num) (.tmp 37) (.val (.int .i64 0)), some (35, false), 8388607⟩, ⟨some 39, .pick (.tmp 35) (.val (.bool true)) (.tmp 38), none, 16777215⟩] false) (.cond (.tmp 39) (.seq (.region [⟨some 0, .assign (.val (.bool false)), none, 0⟩] false) (.ret)) (.skip))) (.seq (.region [⟨some 41, .move (.tmp 1), none, 0⟩, ⟨some 42, .call false 34 8 [(.tmp 41)], none, 1⟩, ⟨some 40, .move (.tmp 42), none, 3⟩, ⟨some 43, .extract (.tmp 40) 0, none, 7⟩, ⟨some 44, .extract (.tmp 40) 1, none, 7⟩, ⟨some 45, .extract (.tmp 40) 2, none, 7⟩, ⟨some 5, .assign (.tmp 43), none, 15⟩, ⟨some 6, .assign (.tmp 44), none, 95⟩, ⟨some 7, .assign (.tmp 45), none, 255⟩] false) (.seq (.region [⟨some 46, .move (.tmp 6), none, 0⟩, ⟨some 47, .conv (.text) (.tmp 46), none, 1⟩, ⟨some 48, .eq false (.num) (.tmp 47) (.val (.str [97])), none, 3⟩, ⟨some 49, .move (.tmp 48), none, 7⟩, ⟨some 50, .move (.tmp 7), some (49, true), 15⟩, ⟨some 51, .len (.slc 1) (.tmp 50), some (49, true), 31⟩, ⟨some 52, .eq false (.num) (.tmp 51) (.val (.int .i64 1)), some (49, true), 63⟩, ⟨some 53, .pick (.tmp 49) (.tmp 52) (.val (.bool false)), none, 127⟩, ⟨some 54, .move (.tmp 53), none, 255⟩, ⟨some 55, .move (.tmp 7), some (54, true), 511⟩, ⟨some 56, .indexAddr none 1 (.tmp 55) (.val (.int .i64 0)), some (54, true), 1023⟩, ⟨some 57, .load false 1 (.tmp 56), some (54, true), 2047⟩, ⟨some 58, .conv (.text) (.tmp 57), some (54, true), 4095⟩, ⟨some 59, .eq false (.num) (.tmp 58) (.val (.str [98])), some (54, true), 8191⟩, ⟨some 60, .pick (.tmp 54) (.tmp 59) (.val (.bool false)), none, 16383⟩, ⟨some 61, .move (.tmp 60), none, 32767⟩, ⟨some 62, .move (.tmp 2), some (61, true), 65535⟩, ⟨some 63, .call false 40 12 [(.tmp 62)], some (61, true), 131071⟩, ⟨some 64, .pick (.tmp 61) (.tmp 63) (.val (.bool false)), none, 262143⟩, ⟨some 65, .move (.tmp 64), none, 524287⟩, ⟨some 66, .move (.tmp 2), some (65, true), 1048575⟩, ⟨some 67, .call false 39 12 [(.tmp 66)], some (65, true), 2097151⟩, ⟨some 68, .eq false (.num) (.tmp 67) (.val (.int .i64 2)), some (65, true), 4194303⟩, ⟨some 69, .pick (.tmp 65) (.tmp 68) (.val (.bool false)), none, 8388607⟩, ⟨some 0, .assign (.tmp 69), none, 16777215⟩] false) (.ret))))))
abbrev v33 : VFunc := { nparams := 0, ntmps := 70, nsites := 12, results := [.tmp 0], body := b33 }
def es8 : List (List Nat) := List.replicate 8 zero64
def alC (k : Nat) (a : Nat) (b : List Nat) : List Nat := cellM (mkN 1 a) (chunk48 (frameN k b) 0)
def al1 : List (List Nat) := [(0, alC 1 0 [97])].foldl wr es8
def al2 : List (Nat × List Nat) := [(1, alC 2 1 [98])]
def al3 : List (List Nat) := al2.foldl wr al1
theorem PW.of {es : List (List Nat)} {ls : List (Nat × List Nat)} (h1 : ∀ c ∈ es, c.length = 64 ∧ ∀ x ∈ c, x < 256) (h2 : ∀ w ∈ ls, w.1 < es.length ∧ w.2.length = 64 ∧ ∀ x ∈ w.2, x < 256) (h3 : es.length ≤ 4096) (h4 : ls.length < 2 ^ 40) : PW es ls := ⟨h1, h2, h3, h4⟩
section
variable {G : VProg}
theorem reelAlive (hG : G 33 = some (.code v33)) (R : Reel G) : Vq.lim G 33 [] [] = some (.bool true, []) := by
  have lr : LR (-1) := by unfold LR; omega
  have t0 : lim G 13 [.int .i64 8] [] = some (q0, [plateO es8 false [] false (-1)]) := R.new 8
  have pw8 : PW es8 [] := PW.of (by decide +kernel) (by decide) (by decide +kernel) (by decide)
  have t1 := R.opn es8 false [] false (-1) pw8
  have e1 : openR es8 [] = (1, []) := by decide +kernel
  have z8 : decide (0 < es8.length / 2) = true := by decide +kernel
  rw [e1, z8] at t1
  simp only [Bool.or_true, openRV] at t1
  have t2 := R.beg 1 0 0 false [97] es8 true [] false (-1) (by decide) (by decide) (by decide) pw8 lr (by decide)
  have e2 : beginR 1 0 0 false [97] es8 true [] false (-1) = (.int .i64 0, [reelO 1 0 1 1 true, plateO al1 false [] false (-1)]) := by kernel_rfl
  rw [e2] at t2
  have t3 := R.add 0 1 1 true [98] al1 false [] false (-1) (by decide) (fun _ => by decide) (by decide) (by decide) (by decide) (by decide +kernel) lr (by decide)
  have e3 : addR 0 1 1 true [98] al1 false [] false (-1) = (.int .i64 0, [reelO 1 0 1 2 true, plateO al1 false al2 false (-1)]) := by kernel_rfl
  rw [e3] at t3
  have t4 := R.flush 0 1 2 true al1 false al2 false (-1) (by decide +kernel) (by decide +kernel) (by decide) lr
  have e4 : (if true then (if spO false (-1) then some ((V.int .i64 72), [reelO 1 0 1 2 false, plateO al1 false al2 true (-1)]) else some ((V.int .i64 0), [reelO 1 0 1 2 true, plateO (al2.foldl wr al1) false [] false (spL false (-1))])) else some (.int .i64 91, [reelO 1 0 1 2 true, plateO al1 false al2 false (-1)])) = some ((V.int .i64 0), [reelO 1 0 1 2 true, plateO al3 false [] false (-1)]) := by kernel_rfl
  have t4' : lim G 37 [q0] [reelO 1 0 1 2 true, plateO al1 false al2 false (-1)] = some ((V.int .i64 0), [reelO 1 0 1 2 true, plateO al3 false [] false (-1)]) := t4.trans e4
  have pw3 : PW al3 [] := PW.of (by decide +kernel) (by decide) (by decide +kernel) (by decide)
  have t5 := R.opn al3 false [] false (-1) pw3
  have e5 : openR al3 [] = (0, [[97], [98]]) := by decide +kernel
  have z3 : decide (0 < al3.length / 2) = true := by decide +kernel
  rw [e5, z3] at t5
  simp only [Bool.or_true, openRV] at t5
  have t6 := R.ready 0 1 2 true al3 true [] false (-1)
  have t7 := R.left 0 1 2 true al3 true [] false (-1) (by decide +kernel) (by decide)
  have e7 : leftN al3.length 2 true = 2 := by decide +kernel
  rw [e7] at t7
  have t8 := R.ready 1 0 0 false es8 true [] false (-1)
  obtain ⟨a1, h1⟩ : ∃ a, a = al1 := ⟨_, rfl⟩
  obtain ⟨a2, h2⟩ : ∃ a, a = al2 := ⟨_, rfl⟩
  obtain ⟨a3, h3⟩ : ∃ a, a = al3 := ⟨_, rfl⟩
  obtain ⟨a8, h8⟩ : ∃ a, a = es8 := ⟨_, rfl⟩
  rw [← h8] at t0 t1 t2 t8
  rw [← h1] at t2 t3 t4'
  rw [← h2] at t3 t4'
  rw [← h3] at t4' t5 t6 t7
  clear t4 e1 e2 e3 e4 e5 e7 z8 z3 pw8 pw3 h1 h2 h3 h8 R
  have t2' : lim G 35 [q0, .isl 0 1 [.int .u8 97]] [reelO 1 1 0 0 false, plateO a8 true [] false (-1)] = some (.int .i64 0, [reelO 1 0 1 1 true, plateO a1 false [] false (-1)]) := t2
  have t3' : lim G 36 [q0, .isl 0 1 [.int .u8 98]] [reelO 1 0 1 1 true, plateO a1 false [] false (-1)] = some (.int .i64 0, [reelO 1 0 1 2 true, plateO a1 false a2 false (-1)]) := t3
  exact lim_fun hG (h := runV trivial trivial trivial)
end
end P1
end Go.Vq
