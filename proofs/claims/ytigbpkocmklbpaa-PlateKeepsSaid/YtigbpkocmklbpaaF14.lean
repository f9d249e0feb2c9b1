/- A machine of values and its tie to the model, and runs of it: part 14 of 14 (no law of Go is stated here). -/
import Derived.Test.YtigbpkocmklbpaaF13
set_option linter.unusedVariables false
set_option linter.unusedSimpArgs false
set_option linter.unusedSectionVars false
namespace Go.Vq
namespace P1
open Go
set_option maxRecDepth 1000000
set_option maxHeartbeats 8000000
abbrev b3 : VCode := .seq (.region [⟨some 3, .box 0 2 (.tmp 0), none, 0⟩, ⟨some 5, .box 1 2 (.tmp 2), none, 0⟩, ⟨some 6, .assign (.val (.bool false)), none, 0⟩] false) (.seq (.seq (.region [⟨some 27, .call true 14 2 [], none, 0⟩, ⟨some 28, .un (.not) (.tmp 27), none, 1⟩] false) (.cond (.tmp 28) (.seq (.region [⟨some 6, .assign (.val (.bool false)), none, 0⟩] false) (.ret)) (.skip))) (.seq (.region [⟨some 29, .indexAddr (some 2) 1 (.tmp 3) (.val (.int .i64 0)), none, 0⟩, ⟨some 30, .load false 1 (.tmp 29), none, 1⟩, ⟨some 31, .indexAddr (some 2) 1 (.tmp 3) (.val (.int .i64 1)), none, 0⟩, ⟨some 32, .load false 1 (.tmp 31), none, 4⟩, ⟨some 7, .assign (.tmp 30), none, 3⟩, ⟨some 8, .assign (.tmp 32), none, 31⟩] true) (.seq (.seq (.region [⟨some 33, .move (.tmp 7), none, 0⟩, ⟨some 34, .len (.slc 4) (.tmp 33), none, 1⟩, ⟨some 35, .bin (.gtr) (.tmp 34) (.val (.int .i64 60)), none, 3⟩, ⟨some 36, .move (.tmp 35), none, 7⟩, ⟨some 37, .move (.tmp 8), some (36, false), 15⟩, ⟨some 38, .len (.slc 4) (.tmp 37), some (36, false), 31⟩, ⟨some 39, .bin (.gtr) (.tmp 38) (.val (.int .i64 60)), some (36, false), 63⟩, ⟨some 40, .pick (.tmp 36) (.val (.bool true)) (.tmp 39), none, 127⟩, ⟨some 41, .move (.tmp 40), none, 255⟩, ⟨some 42, .move (.tmp 1), some (41, false), 511⟩, ⟨some 43, .len (.slc 1) (.tmp 42), some (41, false), 1023⟩, ⟨some 44, .bin (.gtr) (.tmp 43) (.val (.int .i64 20)), some (41, false), 2047⟩, ⟨some 45, .pick (.tmp 41) (.val (.bool true)) (.tmp 44), none, 4095⟩] false) (.cond (.tmp 45) (.seq (.region [⟨some 6, .assign (.val (.bool true)), none, 0⟩] false) (.ret)) (.skip))) (.seq (.region [⟨some 46, .call false 15 2 [(.val (.int .i64 20))], none, 0⟩, ⟨some 47, .call false 15 6 [(.val (.int .i64 20))], none, 1⟩, ⟨some 9, .assign (.tmp 46), none, 3⟩, ⟨some 10, .assign (.tmp 47), none, 7⟩] false) (.seq (.region [⟨some 48, .build [(.bool false), (.bool false), (.bool false), (.bool false), (.bool false), (.bool false), (.bool false), (.bool false), (.bool false), (.bool false), (.bool false), (.bool false), (.bool false), (.bool false), (.bool false), (.bool false), (.bool false), (.bool false), (.bool false), (.bool false)] [], none, 0⟩, ⟨some 11, .alloc 10 [(.bool false), (.bool false), (.bool false), (.bool false), (.bool false), (.bool false), (.bool false), (.bool false), (.bool false), (.bool false), (.bool false), (.bool false), (.bool false), (.bool false), (.bool false), (.bool false), (.bool false), (.bool false), (.bool false), (.bool false)], none, 0⟩, ⟨none, .store 20 (.tmp 11) (.tmp 48), none, 3⟩] false) (.seq (.seq (.region [⟨some 49, .move (.tmp 7), none, 0⟩, ⟨some 50, .len (.slc 4) (.tmp 49), none, 1⟩, ⟨some 51, .move (.val (.int .i64 0)), none, 0⟩] false) (.block 0 (some [1, 5, 8, 9, 10, 11, 31, 32]) (.loop (some [1, 5, 7, 8, 9, 10, 11, 29, 30, 31, 32, 49, 50, 51]) (.seq (.region [⟨some 52, .bin (.lss) (.tmp 51) (.tmp 50), none, 0⟩] false) (.seq (.cond (.tmp 52) (.skip) (.exit 0)) (.seq (.block 1 none (.seq (.region [⟨some 53, .indexAddr none 4 (.tmp 49) (.tmp 51), none, 0⟩, ⟨some 54, .load true 4 (.tmp 53), none, 1⟩, ⟨some 13, .alloc 11 [(.int .i64 0), (.int .i64 0), (.int .i64 0), (.int .u8 0)], none, 0⟩, ⟨none, .store 4 (.tmp 13) (.tmp 54), none, 7⟩] false) (.seq (.region [⟨some 55, .move (.tmp 9), none, 0⟩, ⟨some 56, .fieldAddr 1 (.tmp 13), none, 0⟩, ⟨some 57, .load false 1 (.tmp 56), none, 2⟩, ⟨some 58, .fieldAddr 3 (.tmp 13), none, 0⟩, ⟨some 59, .load false 1 (.tmp 58), none, 8⟩, ⟨some 60, .call true 17 12 [(.tmp 59)], none, 24⟩, ⟨some 61, .call false 16 12 [(.tmp 55), (.tmp 57), (.tmp 60)], none, 63⟩] true) (.region [⟨some 62, .move (.tmp 10), none, 0⟩, ⟨some 63, .fieldAddr 1 (.tmp 13), none, 0⟩, ⟨some 64, .load false 1 (.tmp 63), none, 2⟩, ⟨some 65, .fieldAddr 3 (.tmp 13), none, 0⟩, ⟨some 66, .load false 1 (.tmp 65), none, 8⟩, ⟨some 67, .call true 17 12 [(.tmp 66)], none, 24⟩, ⟨some 68, .call false 16 12 [(.tmp 62), (.tmp 64), (.tmp 67)], none, 63⟩] true)))) (.region [⟨some 69, .bin (.add) (.tmp 51) (.val (.int .i64 1)), none, 0⟩, ⟨some 51, .move (.tmp 69), none, 1⟩] false))))))) (.seq (.seq (.region [⟨some 70, .move (.tmp 9), none, 0⟩, ⟨some 71, .call false 18 12 [(.tmp 70)], none, 1⟩, ⟨some 72, .eq true (.num) (.tmp 71) (.val (.int .i64 0)), none, 3⟩, ⟨some 73, .move (.tmp 72), none, 7⟩, ⟨some 74, .move (.tmp 9), some (73, false), 15⟩, ⟨some 75, .call false 19 12 [(.tmp 74)], some (73, false), 31⟩, ⟨some 76, .eq true (.num) (.tmp 75) (.val (.int .i64 0)), some (73, false), 63⟩, ⟨some 77, .pick (.tmp 73) (.val (.bool true)) (.tmp 76), none, 127⟩] false) (.cond (.tmp 77) (.seq (.region [⟨some 6, .assign (.val (.bool false)), none, 0⟩] false) (.ret)) (.skip))) (.seq (.region [⟨some 78, .build (Z8 1280) [], none, 0⟩, ⟨some 14, .alloc 12 (Z8 1280), none, 0⟩, ⟨none, .store 1280 (.tmp 14) (.tmp 78), none, 3⟩] false) (.seq (.seq (.region [⟨some 79, .move (.val (.int .i64 0)), none, 0⟩] false) (.block 2 (some [1, 5, 8, 9, 10, 11, 14, 31, 32]) (.loop (some [1, 5, 8, 9, 10, 11, 14, 31, 32, 79]) (.seq (.region [⟨some 80, .bin (.lss) (.tmp 79) (.val (.int .i64 20)), none, 0⟩] false) (.seq (.cond (.tmp 80) (.skip) (.exit 2)) (.seq (.block 3 none (.seq (.region [⟨some 81, .move (.tmp 79), none, 0⟩, ⟨some 15, .assign (.tmp 81), none, 1⟩] false) (.region [⟨some 83, .move (.tmp 15), none, 0⟩, ⟨some 84, .move (.tmp 9), none, 0⟩, ⟨some 85, .move (.tmp 15), none, 0⟩, ⟨some 86, .call false 20 13 [(.tmp 84), (.tmp 85)], none, 6⟩, ⟨some 82, .move (.tmp 86), none, 14⟩, ⟨some 87, .extract (.tmp 82) 0, none, 30⟩, ⟨some 88, .extract (.tmp 82) 1, none, 30⟩, ⟨some 89, .indexAddr (some 20) 64 (.tmp 14) (.tmp 83), none, 63⟩, ⟨none, .store 64 (.tmp 89) (.tmp 87), none, 191⟩] false))) (.region [⟨some 90, .bin (.add) (.tmp 79) (.val (.int .i64 1)), none, 0⟩, ⟨some 79, .move (.tmp 90), none, 1⟩] false))))))) (.seq (.seq (.region [⟨some 91, .move (.tmp 8), none, 0⟩, ⟨some 92, .len (.slc 4) (.tmp 91), none, 1⟩, ⟨some 93, .move (.val (.int .i64 0)), none, 0⟩] false) (.block 4 (some [1, 5, 9, 10, 11, 14]) (.loop (some [1, 5, 8, 9, 10, 11, 14, 31, 32, 91, 92, 93]) (.seq (.region [⟨some 94, .bin (.lss) (.tmp 93) (.tmp 92), none, 0⟩] false) (.seq (.cond (.tmp 94) (.skip) (.exit 4)) (.seq (.block 5 none (.seq (.region [⟨some 95, .indexAddr none 4 (.tmp 91) (.tmp 93), none, 0⟩, ⟨some 96, .load true 4 (.tmp 95), none, 1⟩, ⟨some 17, .alloc 13 [(.int .i64 0), (.int .i64 0), (.int .i64 0), (.int .u8 0)], none, 0⟩, ⟨none, .store 4 (.tmp 17) (.tmp 96), none, 7⟩] false) (.seq (.seq (.region [⟨some 97, .move (.tmp 9), none, 0⟩, ⟨some 98, .fieldAddr 1 (.tmp 17), none, 0⟩, ⟨some 99, .load false 1 (.tmp 98), none, 2⟩, ⟨some 100, .fieldAddr 3 (.tmp 17), none, 0⟩, ⟨some 101, .load false 1 (.tmp 100), none, 8⟩, ⟨some 102, .call true 17 14 [(.tmp 101)], none, 24⟩, ⟨some 103, .call false 16 14 [(.tmp 97), (.tmp 99), (.tmp 102)], none, 63⟩, ⟨some 104, .eq false (.num) (.tmp 103) (.val (.int .i64 0)), none, 127⟩] true) (.cond (.tmp 104) (.region [⟨some 105, .fieldAddr 1 (.tmp 17), none, 0⟩, ⟨some 106, .load false 1 (.tmp 105), none, 1⟩, ⟨some 107, .indexAddr (some 20) 1 (.tmp 11) (.tmp 106), none, 3⟩, ⟨none, .store 1 (.tmp 107) (.val (.bool true)), none, 7⟩] false) (.skip))) (.region [⟨some 108, .move (.tmp 10), none, 0⟩, ⟨some 109, .fieldAddr 1 (.tmp 17), none, 0⟩, ⟨some 110, .load false 1 (.tmp 109), none, 2⟩, ⟨some 111, .fieldAddr 3 (.tmp 17), none, 0⟩, ⟨some 112, .load false 1 (.tmp 111), none, 8⟩, ⟨some 113, .call true 17 14 [(.tmp 112)], none, 24⟩, ⟨some 114, .call false 16 14 [(.tmp 108), (.tmp 110), (.tmp 113)], none, 63⟩] true)))) (.region [⟨some 115, .bin (.add) (.tmp 93) (.val (.int .i64 1)), none, 0⟩, ⟨some 93, .move (.tmp 115), none, 1⟩] false))))))) (.seq (.region [⟨some 116, .build (Z8 1280) [], none, 0⟩, ⟨some 18, .alloc 14 (Z8 1280), none, 0⟩, ⟨none, .store 1280 (.tmp 18) (.tmp 116), none, 3⟩] false) (.seq (.seq (.region [⟨some 117, .move (.val (.int .i64 0)), none, 0⟩] false) (.block 6 (some [1, 5, 9, 10, 11, 14, 18]) (.loop (some [1, 5, 9, 10, 11, 14, 18, 117]) (.seq (.region [⟨some 118, .bin (.lss) (.tmp 117) (.val (.int .i64 20)), none, 0⟩] false) (.seq (.cond (.tmp 118) (.skip) (.exit 6)) (.seq (.block 7 none (.seq (.region [⟨some 119, .move (.tmp 117), none, 0⟩, ⟨some 19, .assign (.tmp 119), none, 1⟩] false) (.region [⟨some 121, .move (.tmp 19), none, 0⟩, ⟨some 122, .move (.tmp 10), none, 0⟩, ⟨some 123, .move (.tmp 19), none, 0⟩, ⟨some 124, .call false 20 15 [(.tmp 122), (.tmp 123)], none, 6⟩, ⟨some 120, .move (.tmp 124), none, 14⟩, ⟨some 125, .extract (.tmp 120) 0, none, 30⟩, ⟨some 126, .extract (.tmp 120) 1, none, 30⟩, ⟨some 127, .indexAddr (some 20) 64 (.tmp 18) (.tmp 121), none, 63⟩, ⟨none, .store 64 (.tmp 127) (.tmp 125), none, 191⟩] false))) (.region [⟨some 128, .bin (.add) (.tmp 117) (.val (.int .i64 1)), none, 0⟩, ⟨some 117, .move (.tmp 128), none, 1⟩] false))))))) (.seq (.region [⟨some 129, .move (.tmp 9), none, 0⟩, ⟨some 130, .move (.tmp 1), none, 0⟩, ⟨some 131, .indexAddr (some 2) 1 (.tmp 5) (.val (.int .i64 0)), none, 0⟩, ⟨some 132, .load false 1 (.tmp 131), none, 4⟩, ⟨some 133, .indexAddr (some 2) 1 (.tmp 5) (.val (.int .i64 1)), none, 0⟩, ⟨some 134, .load false 1 (.tmp 133), none, 16⟩, ⟨some 135, .call false 21 15 [(.tmp 129), (.tmp 130), (.tmp 132), (.tmp 134)], none, 63⟩] false) (.seq (.region [⟨some 136, .makeSlice 1 1 (.int .u8 0) (.val (.int .i64 20)) (.val (.int .i64 20)), none, 0⟩, ⟨some 20, .assign (.tmp 136), none, 1⟩] false) (.seq (.seq (.region [⟨some 137, .move (.tmp 20), none, 0⟩, ⟨some 138, .len (.slc 1) (.tmp 137), none, 1⟩, ⟨some 139, .move (.val (.int .i64 0)), none, 0⟩] false) (.block 8 (some [9, 10, 11, 14, 18, 20]) (.loop (some [9, 10, 11, 14, 18, 20, 138, 139]) (.seq (.region [⟨some 140, .bin (.lss) (.tmp 139) (.tmp 138), none, 0⟩] false) (.seq (.cond (.tmp 140) (.skip) (.exit 8)) (.seq (.block 9 none (.seq (.region [⟨some 141, .move (.tmp 139), none, 0⟩, ⟨some 21, .assign (.tmp 141), none, 1⟩] false) (.region [⟨some 142, .move (.tmp 20), none, 0⟩, ⟨some 143, .move (.tmp 21), none, 0⟩, ⟨some 144, .indexAddr none 1 (.tmp 142) (.tmp 143), none, 3⟩, ⟨none, .store 1 (.tmp 144) (.val (.int .u8 255)), none, 7⟩] false))) (.region [⟨some 145, .bin (.add) (.tmp 139) (.val (.int .i64 1)), none, 0⟩, ⟨some 139, .move (.tmp 145), none, 1⟩] false))))))) (.seq (.region [⟨some 146, .move (.tmp 10), none, 0⟩, ⟨some 147, .move (.tmp 20), none, 0⟩, ⟨some 148, .call false 21 15 [(.tmp 146), (.tmp 147), (.val (.int .i64 (-1))), (.val (.int .i64 0))], none, 3⟩] false) (.seq (.seq (.region [⟨some 149, .move (.val (.int .i64 0)), none, 0⟩] false) (.block 10 (some []) (.loop (some [9, 10, 11, 14, 18, 149]) (.seq (.region [⟨some 150, .bin (.lss) (.tmp 149) (.val (.int .i64 20)), none, 0⟩] false) (.seq (.cond (.tmp 150) (.skip) (.exit 10)) (.seq (.block 11 none (.seq (.region [⟨some 151, .move (.tmp 149), none, 0⟩, ⟨some 22, .assign (.tmp 151), none, 1⟩] false) (.seq (.region [⟨some 153, .move (.tmp 9), none, 0⟩, ⟨some 154, .move (.tmp 22), none, 0⟩, ⟨some 155, .call false 20 15 [(.tmp 153), (.tmp 154)], none, 3⟩, ⟨some 152, .move (.tmp 155), none, 7⟩, ⟨some 156, .extract (.tmp 152) 0, none, 15⟩, ⟨some 157, .extract (.tmp 152) 1, none, 15⟩, ⟨some 23, .alloc 15 (Z8 64), none, 0⟩, ⟨none, .store 64 (.tmp 23) (.tmp 156), none, 95⟩, ⟨some 24, .assign (.tmp 157), none, 255⟩] false) (.seq (.region [⟨some 159, .move (.tmp 10), none, 0⟩, ⟨some 160, .move (.tmp 22), none, 0⟩, ⟨some 161, .call false 20 16 [(.tmp 159), (.tmp 160)], none, 3⟩, ⟨some 158, .move (.tmp 161), none, 7⟩, ⟨some 162, .extract (.tmp 158) 0, none, 15⟩, ⟨some 163, .extract (.tmp 158) 1, none, 15⟩, ⟨some 25, .alloc 16 (Z8 64), none, 0⟩, ⟨none, .store 64 (.tmp 25) (.tmp 162), none, 95⟩, ⟨some 26, .assign (.tmp 163), none, 255⟩] false) (.seq (.region [⟨some 164, .move (.tmp 22), none, 0⟩, ⟨some 165, .indexAddr (some 20) 1 (.tmp 11) (.tmp 164), none, 1⟩, ⟨some 166, .load false 1 (.tmp 165), none, 3⟩, ⟨some 167, .un (.not) (.tmp 166), none, 7⟩, ⟨some 168, .move (.tmp 167), none, 15⟩, ⟨some 169, .load true 64 (.tmp 23), some (168, true), 31⟩, ⟨some 170, .move (.tmp 22), some (168, true), 31⟩, ⟨some 171, .indexAddr (some 20) 64 (.tmp 14) (.tmp 170), some (168, true), 95⟩, ⟨some 172, .load true 64 (.tmp 171), some (168, true), 223⟩, ⟨some 173, .eq true (.cells (List.replicate 64 (.int .u8))) (.tmp 169) (.tmp 172), some (168, true), 511⟩, ⟨some 174, .pick (.tmp 168) (.tmp 173) (.val (.bool false)), none, 1023⟩, ⟨some 175, .move (.tmp 174), none, 2047⟩, ⟨some 176, .load true 64 (.tmp 25), some (175, false), 4095⟩, ⟨some 177, .move (.tmp 22), some (175, false), 4095⟩, ⟨some 178, .indexAddr (some 20) 64 (.tmp 18) (.tmp 177), some (175, false), 12287⟩, ⟨some 179, .load true 64 (.tmp 178), some (175, false), 28671⟩, ⟨some 180, .eq true (.cells (List.replicate 64 (.int .u8))) (.tmp 176) (.tmp 179), some (175, false), 65535⟩, ⟨some 181, .pick (.tmp 175) (.val (.bool true)) (.tmp 180), none, 131071⟩] true) (.cond (.tmp 181) (.seq (.region [⟨some 6, .assign (.val (.bool false)), none, 0⟩] false) (.ret)) (.skip))))))) (.region [⟨some 182, .bin (.add) (.tmp 149) (.val (.int .i64 1)), none, 0⟩, ⟨some 149, .move (.tmp 182), none, 1⟩] false))))))) (.seq (.region [⟨some 6, .assign (.val (.bool true)), none, 0⟩] false) (.ret)))))))))))))))))))
abbrev v3 : VFunc := { nparams := 3, ntmps := 183, nsites := 17, results := [.tmp 6], body := b3 }
structure ActK where
  kind : Int
  at' : Int
  n : Int
  v : Nat
abbrev actK (a : ActK) : V := .agg [.int .i64 a.kind, .int .i64 a.at', .int .i64 a.n, .int .u8 a.v]
section
variable (G : VProg)
abbrev HPutP (G : VProg) : Prop := ∀ (i : Int) (c : List Nat) (_ : c.length = 64) es fz ls off left (_ : (ls.length + 1) * 72 ≤ 140737488355328) (_ : LR left),
    lim G 16 [q0, .int .i64 i, cellV c] [plateO es fz ls off left] = if inR i es.length then (if spO off left then some (.int .i64 72, [plateO es fz ls true left]) else some (.int .i64 0, [plateO es fz (ls ++ [(i.toNat, c)]) false (spL off left)])) else some (.int .i64 71, [plateO es fz ls off left])
abbrev es0 : List (List Nat) := List.replicate 20 zero64
def stepP (ls : List (Nat × List Nat)) (a : ActK) : List (Nat × List Nat) := if inR a.at' 20 = true then ls ++ [(a.at'.toNat, cellOf a.v)] else ls
def lsOf (init : List (Nat × List Nat)) (l : List ActK) : List (Nat × List Nat) := l.foldl stepP init
theorem lsOf_succ (init) (l : List ActK) (k : Nat) (h : k < l.length) : lsOf init (l.take (k + 1)) = stepP (lsOf init (l.take k)) l[k] := by
  unfold lsOf
  rw [List.take_add_one, List.getElem?_eq_getElem h, Option.toList_some, List.foldl_append]
  rfl
theorem lsOf_len (init) : ∀ l : List ActK, (lsOf init l).length ≤ init.length + l.length := by
  intro l
  induction l generalizing init with
  | nil => exact Nat.le_refl _
  | cons a l ih =>
    have h := ih (stepP init a)
    have : (stepP init a).length ≤ init.length + 1 := by unfold stepP; split <;> simp
    show (lsOf (stepP init a) l).length ≤ _
    simp only [List.length_cons]
    omega
theorem lsOf_ok (init) (hi : ∀ w ∈ init, w.1 < 20 ∧ w.2.length = 64) : ∀ l : List ActK, ∀ w ∈ lsOf init l, w.1 < 20 ∧ w.2.length = 64 := by
  intro l
  induction l generalizing init with
  | nil => exact hi
  | cons a l ih =>
    refine ih (stepP init a) fun w hw => ?_
    unfold stepP at hw
    split at hw
    · rename_i h
      rcases List.mem_append.1 hw with hw | hw
      · exact hi w hw
      · rw [List.mem_singleton] at hw
        subst hw
        simp [inR] at h
        exact ⟨by simp only; omega, cellOf_len _⟩
    · exact hi w hw
abbrev ob0 (as1 as2 : List ActK) : Option Obj := some (.cells [.isl 0 4 (as1.map actK), .isl 0 4 (as2.map actK)])
abbrev ob1 (t0 t1 : Int) : Option Obj := some (.cells [.int .i64 t0, .int .i64 t1])
abbrev boolO (tb : List Bool) : Option Obj := some (.cells (tb.map V.bool))
def SK1 (as1 as2 : List ActK) (kp : List Nat) (t0 t1 : Int) (e : List (List Nat)) (ls : List (Nat × List Nat)) (k : Nat) : St :=
  ⟨(.gone 0 :: .isl 0 1 (byN kp) :: .gone 0 :: .gone 0 :: .gone 0 :: .ptr (.obj 1 0) :: .gone 0 :: .isl 0 4 (as1.map actK) :: .isl 0 4 (as2.map actK) :: .ptr (.obj 2 0) :: .ptr (.obj 6 0) :: .ptr (.obj 10 0) :: .gone 0 :: .gone 0 :: .gone 0 :: .gone 0 :: .gone 0 :: .gone 0 :: .gone 0 :: .gone 0 :: .gone 0 :: .gone 0 :: .gone 0 :: .gone 0 :: .gone 0 :: .gone 0 :: .gone 0 :: .gone 0 :: .gone 0 :: .ptr (.obj 0 0) :: .isl 0 4 (as1.map actK) :: .ptr (.obj 0 1) :: .isl 0 4 (as2.map actK) :: .gone 0 :: .gone 0 :: .gone 0 :: .gone 0 :: .gone 0 :: .gone 0 :: .gone 0 :: .gone 0 :: .gone 0 :: .gone 0 :: .gone 0 :: .gone 0 :: .gone 0 :: .gone 0 :: .gone 0 :: .gone 0 :: .isl 0 4 (as1.map actK) :: .int .i64 as1.length :: .int .i64 k :: .gone 0 :: .gone 0 :: .gone 0 :: .gone 0 :: .gone 0 :: .gone 0 :: .gone 0 :: .gone 0 :: .gone 0 :: .gone 0 :: .gone 0 :: .gone 0 :: .gone 0 :: .gone 0 :: .gone 0 :: .gone 0 :: .gone 0 :: .gone 0 :: .gone 0 :: .gone 0 :: .gone 0 :: .gone 0 :: .gone 0 :: .gone 0 :: .gone 0 :: .gone 0 :: .gone 0 :: .gone 0 :: .gone 0 :: .gone 0 :: .gone 0 :: .gone 0 :: .gone 0 :: .gone 0 :: .gone 0 :: .gone 0 :: .gone 0 :: .gone 0 :: .gone 0 :: .gone 0 :: .gone 0 :: .gone 0 :: .gone 0 :: .gone 0 :: .gone 0 :: .gone 0 :: .gone 0 :: .gone 0 :: .gone 0 :: .gone 0 :: .gone 0 :: .gone 0 :: .gone 0 :: .gone 0 :: .gone 0 :: .gone 0 :: .gone 0 :: .gone 0 :: .gone 0 :: .gone 0 :: .gone 0 :: .gone 0 :: .gone 0 :: .gone 0 :: .gone 0 :: .gone 0 :: .gone 0 :: .gone 0 :: .gone 0 :: .gone 0 :: .gone 0 :: .gone 0 :: .gone 0 :: .gone 0 :: .gone 0 :: .gone 0 :: .gone 0 :: .gone 0 :: .gone 0 :: .gone 0 :: .gone 0 :: .gone 0 :: .gone 0 :: .gone 0 :: .gone 0 :: .gone 0 :: .gone 0 :: .gone 0 :: .gone 0 :: .gone 0 :: .gone 0 :: .gone 0 :: .gone 0 :: .gone 0 :: .gone 0 :: .gone 0 :: .gone 0 :: .gone 0 :: .gone 0 :: .gone 0 :: .gone 0 :: .gone 0 :: .gone 0 :: .gone 0 :: .gone 0 :: .gone 0 :: .gone 0 :: .gone 0 :: .gone 0 :: .gone 0 :: .gone 0 :: .gone 0 :: .gone 0 :: .gone 0 :: .gone 0 :: .gone 0 :: .gone 0 :: .gone 0 :: .gone 0 :: .gone 0 :: .gone 0 :: .gone 0 :: .gone 0 :: .gone 0 :: .gone 0 :: .gone 0 :: .gone 0 :: .gone 0 :: .gone 0 :: .gone 0 :: .gone 0 :: []),
    [ob0 as1 as2, ob1 t0 t1, some (plateO e false ls false (-1)), none, none, none, some (plateO e false ls false (-1)), none, none, none, boolO (List.replicate 20 false), none, none, none, none, none, none]⟩
theorem apart_cell (c : List Nat) : (cellV c).apart = true := by
  simp only [V.apart, V.leaves, V.cells, List.all_eq_true]
  intro u hu
  simp only [byN, List.mem_map] at hu
  obtain ⟨x, _, rfl⟩ := hu
  rfl
theorem cfK {c : List Nat} (h : c.length = 64) : c.length = 64 ∧ (byN c).take 64 = byN c ∧ (byN c).drop 64 = [] ∧ (∀ r : List V, (byN c ++ r).take 64 = byN c) ∧ ∀ r : List V, (byN c ++ r).drop 64 = r := ⟨h, take_by h, drop_by h, take_byA h, drop_byA h⟩
theorem hx_cell (c : List Nat) (n : Int) : (V.tup [cellV c, .int .i64 n]).hasX = false := by
  simp only [V.hasX, V.leaves, List.any_eq_false]
  intro u hu
  simp only [List.flatMap_cons, List.flatMap_nil, V.cells, byN, List.mem_append, List.mem_map, List.not_mem_nil, or_false, List.mem_singleton] at hu
  rcases hu with ⟨x, _, rfl⟩ | rfl
  · simp
  · simp
theorem put20 {G : VProg} (hP : HPutP G) (i : Int) (c : List Nat) (hc : c.length = 64) (e : List (List Nat)) (he : e.length = 20) (fz : Bool) (ls : List (Nat × List Nat)) (hl : ls.length < 1000) :
    lim G 16 [q0, .int .i64 i, cellV c] [plateO e fz ls false (-1)] = if inR i 20 then some (.int .i64 0, [plateO e fz (ls ++ [(i.toNat, c)]) false (-1)]) else some (.int .i64 71, [plateO e fz ls false (-1)]) := by
  have := hP i c hc e fz ls false (-1) (by omega) (by simp [LR])
  rw [he] at this
  exact this
def tl : Nat → VCode → VCode
  | 0, c => c
  | n + 1, .seq _ b => tl n b
  | _, c => c
abbrev QK (G : VProg) : Out → St → Prop := Qend v3 0 (some (.bool true, []))
def SK2 (as1 as2 : List ActK) (kp : List Nat) (t0 t1 : Int) (e : List (List Nat)) (ls : List (Nat × List Nat)) : St :=
  ⟨(.gone 0 :: .isl 0 1 (byN kp) :: .gone 0 :: .gone 0 :: .gone 0 :: .ptr (.obj 1 0) :: .gone 0 :: .gone 0 :: .isl 0 4 (as2.map actK) :: .ptr (.obj 2 0) :: .ptr (.obj 6 0) :: .ptr (.obj 10 0) :: .gone 0 :: .gone 0 :: .gone 0 :: .gone 0 :: .gone 0 :: .gone 0 :: .gone 0 :: .gone 0 :: .gone 0 :: .gone 0 :: .gone 0 :: .gone 0 :: .gone 0 :: .gone 0 :: .gone 0 :: .gone 0 :: .gone 0 :: .gone 0 :: .gone 0 :: .ptr (.obj 0 1) :: .isl 0 4 (as2.map actK) :: .gone 0 :: .gone 0 :: .gone 0 :: .gone 0 :: .gone 0 :: .gone 0 :: .gone 0 :: .gone 0 :: .gone 0 :: .gone 0 :: .gone 0 :: .gone 0 :: .gone 0 :: .gone 0 :: .gone 0 :: .gone 0 :: .gone 0 :: .gone 0 :: .gone 0 :: .gone 0 :: .gone 0 :: .gone 0 :: .gone 0 :: .gone 0 :: .gone 0 :: .gone 0 :: .gone 0 :: .gone 0 :: .gone 0 :: .gone 0 :: .gone 0 :: .gone 0 :: .gone 0 :: .gone 0 :: .gone 0 :: .gone 0 :: .gone 0 :: .gone 0 :: .gone 0 :: .gone 0 :: .gone 0 :: .gone 0 :: .gone 0 :: .gone 0 :: .gone 0 :: .gone 0 :: .gone 0 :: .gone 0 :: .gone 0 :: .gone 0 :: .gone 0 :: .gone 0 :: .gone 0 :: .gone 0 :: .gone 0 :: .gone 0 :: .gone 0 :: .gone 0 :: .gone 0 :: .gone 0 :: .gone 0 :: .gone 0 :: .gone 0 :: .gone 0 :: .gone 0 :: .gone 0 :: .gone 0 :: .gone 0 :: .gone 0 :: .gone 0 :: .gone 0 :: .gone 0 :: .gone 0 :: .gone 0 :: .gone 0 :: .gone 0 :: .gone 0 :: .gone 0 :: .gone 0 :: .gone 0 :: .gone 0 :: .gone 0 :: .gone 0 :: .gone 0 :: .gone 0 :: .gone 0 :: .gone 0 :: .gone 0 :: .gone 0 :: .gone 0 :: .gone 0 :: .gone 0 :: .gone 0 :: .gone 0 :: .gone 0 :: .gone 0 :: .gone 0 :: .gone 0 :: .gone 0 :: .gone 0 :: .gone 0 :: .gone 0 :: .gone 0 :: .gone 0 :: .gone 0 :: .gone 0 :: .gone 0 :: .gone 0 :: .gone 0 :: .gone 0 :: .gone 0 :: .gone 0 :: .gone 0 :: .gone 0 :: .gone 0 :: .gone 0 :: .gone 0 :: .gone 0 :: .gone 0 :: .gone 0 :: .gone 0 :: .gone 0 :: .gone 0 :: .gone 0 :: .gone 0 :: .gone 0 :: .gone 0 :: .gone 0 :: .gone 0 :: .gone 0 :: .gone 0 :: .gone 0 :: .gone 0 :: .gone 0 :: .gone 0 :: .gone 0 :: .gone 0 :: .gone 0 :: .gone 0 :: .gone 0 :: .gone 0 :: .gone 0 :: .gone 0 :: .gone 0 :: .gone 0 :: .gone 0 :: .gone 0 :: .gone 0 :: .gone 0 :: .gone 0 :: []),
    [ob0 as1 as2, ob1 t0 t1, some (plateO e false ls false (-1)), none, none, none, some (plateO e false ls false (-1)), none, none, none, boolO (List.replicate 20 false), none, none, none, none, none, none]⟩
def seenN (f : Nat → List Nat) (k : Nat) : List (List Nat) := (List.range 20).map fun j => if j < k then f j else zero64
theorem seenN_len (f k) : (seenN f k).length = 20 := by simp [seenN]
theorem seenN_64 (f : Nat → List Nat) (hf : ∀ j, (f j).length = 64) (k) : ∀ c ∈ seenN f k, c.length = 64 := by
  intro c hc
  simp only [seenN, List.mem_map] at hc
  obtain ⟨j, _, rfl⟩ := hc
  split
  · exact hf j
  · rfl
theorem seenN_succ (f : Nat → List Nat) (k : Nat) (hk : k < 20) : (seenN f k).set k (f k) = seenN f (k + 1) := by
  apply List.ext_getElem?
  intro i
  simp only [seenN, List.getElem?_set, List.getElem?_map, List.length_map, List.length_range]
  by_cases h : k = i
  · subst h
    simp [hk]
  · rw [if_neg h]
    by_cases hi : i < 20
    · simp only [List.getElem?_range hi, Option.map_some, Option.some.injEq]
      by_cases h2 : i < k
      · rw [if_pos h2, if_pos (by omega)]
      · rw [if_neg h2, if_neg (by omega)]
    · rw [List.getElem?_eq_none (by simpa using hi)]; rfl
theorem seenN_get (f : Nat → List Nat) (i : Nat) (hi : i < 20) : (seenN f 20)[i]? = some (f i) := by
  simp [seenN, hi]
abbrev rowO (cs : List (List Nat)) : Option Obj := some (.cells (byN cs.flatten))
theorem row_facts (cs : List (List Nat)) (hcs : cs.length = 20) (h : ∀ c ∈ cs, c.length = 64) (k : Nat) (hk : k < 20) (c : List Nat) (hc : c.length = 64) :
    regens (List.take 64 (List.drop (k * 64) (byN cs.flatten))) (byN c) = some (byN c) ∧ (byN cs.flatten).length = 1280 ∧ byN (List.take (k * 64) cs.flatten) ++ byN c ++ List.drop (k * 64 + 64) (byN cs.flatten) = byN (cs.set k c).flatten := by
  refine ⟨?_, by rw [byN_len, rows_len cs h, hcs], ?_⟩
  · rw [flat_take cs h k (by omega)]
    exact regens_by _ _ (by rw [h _ (List.getElem_mem _), hc])
  · have := flat_splice cs h k (by omega) c hc
    rw [← this]
    unfold splice
    rw [byN_len, hc, byN_take]
end
end P1
end Go.Vq
namespace Go.Vq
namespace P1
open Go
set_option maxRecDepth 1000000
set_option maxHeartbeats 8000000
section
variable (G : VProg)
abbrev HGetP (G : VProg) : Prop := ∀ (i : Int) (es : List (List Nat)) (fz : Bool) (ls : List (Nat × List Nat)) (off : Bool) (left : Int) (_ : ∀ c ∈ es, c.length = 64) (_ : ∀ w ∈ ls, w.2.length = 64) (_ : ls.length < 2 ^ 40),
    lim G 20 [q0, .int .i64 i] [plateO es fz ls off left] = some (.tup [cellV (getC es ls i), .int .i64 (if inR i es.length then 0 else 71)], [plateO es (if inR i es.length then true else fz) ls off left])
theorem get20 {G : VProg} (hg : HGetP G) (k : Nat) (hk : k < 20) (e : List (List Nat)) (he : e.length = 20) (h64 : ∀ c ∈ e, c.length = 64) (fz : Bool) (ls : List (Nat × List Nat)) (hl : ∀ w ∈ ls, w.2.length = 64) (hn : ls.length < 1000) :
    lim G 20 [q0, .int .i64 k] [plateO e fz ls false (-1)] = some (.tup [cellV (getC e ls k), .int .i64 0], [plateO e true ls false (-1)]) := by
  have := hg k e fz ls false (-1) h64 hl (by omega)
  have hr : inR (k : Int) 20 = true := by simp [inR]; omega
  rw [he, hr] at this
  exact this
def SK3 (as1 as2 : List ActK) (kp : List Nat) (t0 t1 : Int) (e e1 : List (List Nat)) (ls : List (Nat × List Nat)) (cs : List (List Nat)) (fz : Bool) (k : Nat) : St :=
  ⟨(.gone 0 :: .isl 0 1 (byN kp) :: .gone 0 :: .gone 0 :: .gone 0 :: .ptr (.obj 1 0) :: .gone 0 :: .gone 0 :: .isl 0 4 (as2.map actK) :: .ptr (.obj 2 0) :: .ptr (.obj 6 0) :: .ptr (.obj 10 0) :: .gone 0 :: .gone 0 :: .ptr (.obj 12 0) :: .gone 0 :: .gone 0 :: .gone 0 :: .gone 0 :: .gone 0 :: .gone 0 :: .gone 0 :: .gone 0 :: .gone 0 :: .gone 0 :: .gone 0 :: .gone 0 :: .gone 0 :: .gone 0 :: .gone 0 :: .gone 0 :: .ptr (.obj 0 1) :: .isl 0 4 (as2.map actK) :: .gone 0 :: .gone 0 :: .gone 0 :: .gone 0 :: .gone 0 :: .gone 0 :: .gone 0 :: .gone 0 :: .gone 0 :: .gone 0 :: .gone 0 :: .gone 0 :: .gone 0 :: .gone 0 :: .gone 0 :: .gone 0 :: .gone 0 :: .gone 0 :: .gone 0 :: .gone 0 :: .gone 0 :: .gone 0 :: .gone 0 :: .gone 0 :: .gone 0 :: .gone 0 :: .gone 0 :: .gone 0 :: .gone 0 :: .gone 0 :: .gone 0 :: .gone 0 :: .gone 0 :: .gone 0 :: .gone 0 :: .gone 0 :: .gone 0 :: .gone 0 :: .gone 0 :: .gone 0 :: .gone 0 :: .gone 0 :: .gone 0 :: .gone 0 :: .gone 0 :: .gone 0 :: .int .i64 k :: .gone 0 :: .gone 0 :: .gone 0 :: .gone 0 :: .gone 0 :: .gone 0 :: .gone 0 :: .gone 0 :: .gone 0 :: .gone 0 :: .gone 0 :: .gone 0 :: .gone 0 :: .gone 0 :: .gone 0 :: .gone 0 :: .gone 0 :: .gone 0 :: .gone 0 :: .gone 0 :: .gone 0 :: .gone 0 :: .gone 0 :: .gone 0 :: .gone 0 :: .gone 0 :: .gone 0 :: .gone 0 :: .gone 0 :: .gone 0 :: .gone 0 :: .gone 0 :: .gone 0 :: .gone 0 :: .gone 0 :: .gone 0 :: .gone 0 :: .gone 0 :: .gone 0 :: .gone 0 :: .gone 0 :: .gone 0 :: .gone 0 :: .gone 0 :: .gone 0 :: .gone 0 :: .gone 0 :: .gone 0 :: .gone 0 :: .gone 0 :: .gone 0 :: .gone 0 :: .gone 0 :: .gone 0 :: .gone 0 :: .gone 0 :: .gone 0 :: .gone 0 :: .gone 0 :: .gone 0 :: .gone 0 :: .gone 0 :: .gone 0 :: .gone 0 :: .gone 0 :: .gone 0 :: .gone 0 :: .gone 0 :: .gone 0 :: .gone 0 :: .gone 0 :: .gone 0 :: .gone 0 :: .gone 0 :: .gone 0 :: .gone 0 :: .gone 0 :: .gone 0 :: .gone 0 :: .gone 0 :: .gone 0 :: .gone 0 :: .gone 0 :: .gone 0 :: .gone 0 :: .gone 0 :: .gone 0 :: .gone 0 :: .gone 0 :: .gone 0 :: .gone 0 :: .gone 0 :: .gone 0 :: .gone 0 :: .gone 0 :: .gone 0 :: .gone 0 :: .gone 0 :: .gone 0 :: .gone 0 :: .gone 0 :: .gone 0 :: .gone 0 :: []),
    [ob0 as1 as2, ob1 t0 t1, some (plateO e1 fz [] false (-1)), none, none, none, some (plateO e false ls false (-1)), none, none, none, boolO (List.replicate 20 false), none, rowO cs, none, none, none, none]⟩
def SK4 (as1 as2 : List ActK) (kp : List Nat) (t0 t1 : Int) (e e1 : List (List Nat)) (ls : List (Nat × List Nat)) (cs : List (List Nat)) : St :=
  ⟨(.gone 0 :: .isl 0 1 (byN kp) :: .gone 0 :: .gone 0 :: .gone 0 :: .ptr (.obj 1 0) :: .gone 0 :: .gone 0 :: .isl 0 4 (as2.map actK) :: .ptr (.obj 2 0) :: .ptr (.obj 6 0) :: .ptr (.obj 10 0) :: .gone 0 :: .gone 0 :: .ptr (.obj 12 0) :: .gone 0 :: .gone 0 :: .gone 0 :: .gone 0 :: .gone 0 :: .gone 0 :: .gone 0 :: .gone 0 :: .gone 0 :: .gone 0 :: .gone 0 :: .gone 0 :: .gone 0 :: .gone 0 :: .gone 0 :: .gone 0 :: .ptr (.obj 0 1) :: .isl 0 4 (as2.map actK) :: .gone 0 :: .gone 0 :: .gone 0 :: .gone 0 :: .gone 0 :: .gone 0 :: .gone 0 :: .gone 0 :: .gone 0 :: .gone 0 :: .gone 0 :: .gone 0 :: .gone 0 :: .gone 0 :: .gone 0 :: .gone 0 :: .gone 0 :: .gone 0 :: .gone 0 :: .gone 0 :: .gone 0 :: .gone 0 :: .gone 0 :: .gone 0 :: .gone 0 :: .gone 0 :: .gone 0 :: .gone 0 :: .gone 0 :: .gone 0 :: .gone 0 :: .gone 0 :: .gone 0 :: .gone 0 :: .gone 0 :: .gone 0 :: .gone 0 :: .gone 0 :: .gone 0 :: .gone 0 :: .gone 0 :: .gone 0 :: .gone 0 :: .gone 0 :: .gone 0 :: .gone 0 :: .gone 0 :: .gone 0 :: .gone 0 :: .gone 0 :: .gone 0 :: .gone 0 :: .gone 0 :: .gone 0 :: .gone 0 :: .gone 0 :: .gone 0 :: .gone 0 :: .gone 0 :: .gone 0 :: .gone 0 :: .gone 0 :: .gone 0 :: .gone 0 :: .gone 0 :: .gone 0 :: .gone 0 :: .gone 0 :: .gone 0 :: .gone 0 :: .gone 0 :: .gone 0 :: .gone 0 :: .gone 0 :: .gone 0 :: .gone 0 :: .gone 0 :: .gone 0 :: .gone 0 :: .gone 0 :: .gone 0 :: .gone 0 :: .gone 0 :: .gone 0 :: .gone 0 :: .gone 0 :: .gone 0 :: .gone 0 :: .gone 0 :: .gone 0 :: .gone 0 :: .gone 0 :: .gone 0 :: .gone 0 :: .gone 0 :: .gone 0 :: .gone 0 :: .gone 0 :: .gone 0 :: .gone 0 :: .gone 0 :: .gone 0 :: .gone 0 :: .gone 0 :: .gone 0 :: .gone 0 :: .gone 0 :: .gone 0 :: .gone 0 :: .gone 0 :: .gone 0 :: .gone 0 :: .gone 0 :: .gone 0 :: .gone 0 :: .gone 0 :: .gone 0 :: .gone 0 :: .gone 0 :: .gone 0 :: .gone 0 :: .gone 0 :: .gone 0 :: .gone 0 :: .gone 0 :: .gone 0 :: .gone 0 :: .gone 0 :: .gone 0 :: .gone 0 :: .gone 0 :: .gone 0 :: .gone 0 :: .gone 0 :: .gone 0 :: .gone 0 :: .gone 0 :: .gone 0 :: .gone 0 :: .gone 0 :: .gone 0 :: .gone 0 :: .gone 0 :: .gone 0 :: .gone 0 :: .gone 0 :: .gone 0 :: .gone 0 :: .gone 0 :: .gone 0 :: []),
    [ob0 as1 as2, ob1 t0 t1, some (plateO e1 true [] false (-1)), none, none, none, some (plateO e false ls false (-1)), none, none, none, boolO (List.replicate 20 false), none, rowO cs, none, none, none, none]⟩
theorem k2 (hg : HGetP G) (as1 as2 : List ActK) (kp : List Nat) (t0 t1 : Int) (e : List (List Nat)) (ls : List (Nat × List Nat)) (e1 : List (List Nat)) (he1 : e1.length = 20) (h64 : ∀ c ∈ e1, c.length = 64) (hlc : ∀ i, (getC e1 [] i).length = 64)
    (t1' : lim G 18 [q0] [plateO e false ls false (-1)] = some (.int .i64 0, [plateO e1 false [] false (-1)]))
    (t2' : lim G 19 [q0] [plateO e1 false [] false (-1)] = some (.int .i64 0, [plateO e1 false [] false (-1)]))
    (hk3 : WL G 0 (tl 10 b3) (SK4 as1 as2 kp t0 t1 e e1 ls (seenN (fun j => getC e1 [] j) 20)) (QK G)) :
    WL G 0 (tl 7 b3) (SK2 as1 as2 kp t0 t1 e ls) (QK G) := by
  unfold SK2
  dsimp only [tl, b3]
  refine runV trivial trivial ?_
  have hbig : ∀ (cs : List (List Nat)) (sl : List V) (o0 o1 o2 o6 o10 : Option Obj), BigOk [12] ⟨sl, [o0, o1, o2, none, none, none, o6, none, none, none, o10, none, rowO cs, none, none, none, none]⟩ := by
    intro cs sl o0 o1 o2 o6 o10 j hj
    simp only [List.mem_cons, List.not_mem_nil, or_false] at hj
    subst hj
    exact ⟨_, rfl, flat_byN _⟩
  refine WL_loop (fun k => SK3 as1 as2 kp t0 t1 e e1 ls (seenN (fun j => getC e1 [] j) k) (decide (0 < k)) k) (fun k => k ≤ 20) (fun k => 20 - k) ?_ 0 _ (Nat.zero_le _) (by kernel_rfl)
  intro k hk
  by_cases hlt : k < 20
  · have d1 : decide ((k : Int) < 20) = true := by simp; omega
    have i1 := inc64 k (by omega)
    have hki : (0 : Int) ≤ (k : Int) ∧ (k : Int) < 20 := by omega
    have hsu := seenN_succ (fun j => getC e1 [] j) k hlt
    have h64' := seenN_64 (fun j => getC e1 [] j) (fun j => hlc j) k
    have hl20 := seenN_len (fun j => getC e1 [] (j : Int)) k
    have hgk := fun fz => get20 hg k hlt e1 he1 h64 fz [] (by simp) (by simp)
    have hcl := hlc k
    obtain ⟨cs, hcs⟩ : ∃ cs, cs = seenN (fun j => getC e1 [] j) k := ⟨_, rfl⟩
    obtain ⟨c, hc⟩ : ∃ c, c = getC e1 [] k := ⟨_, rfl⟩
    rw [← hcs] at h64' hl20 hsu ⊢
    rw [← hc] at hcl hsu
    simp only [← hc] at hgk
    obtain ⟨f3, hln, f4⟩ := row_facts cs hl20 h64' k hlt c hcl
    have hoff : k * 64 + 64 ≤ 1280 := by omega
    have rg := regens_gA (n := 63) hcl
    have F := And.intro d1 (And.intro i1 (And.intro f3 (And.intro hln (And.intro (hx_cell c 0) (cfK hcl)))))
    have hend : SK3 as1 as2 kp t0 t1 e e1 ls (cs.set k c) true (k + 1) = SK3 as1 as2 kp t0 t1 e e1 ls (seenN (fun j => getC e1 [] j) (k + 1)) (decide (0 < k + 1)) (k + 1) := by
      rw [hsu, show decide (0 < k + 1) = true by simp]
    cases hz : decide (0 < k)
    · have g1 := hgk false
      unfold SK3 at hend ⊢
      refine runV F (And.intro rg (And.intro hki hoff)) ?_
      rw [f4]
      refine Qr_n (k + 1) (Eq.trans ?_ hend) ⟨by omega, by omega⟩
      exact (rebaseB_eq [12] (hbig _ _ _ _ _ _ _)).trans (by kernel_rfl)
    · have g1 := hgk true
      unfold SK3 at hend ⊢
      refine runV F (And.intro rg (And.intro hki hoff)) ?_
      rw [f4]
      refine Qr_n (k + 1) (Eq.trans ?_ hend) ⟨by omega, by omega⟩
      exact (rebaseB_eq [12] (hbig _ _ _ _ _ _ _)).trans (by kernel_rfl)
  · obtain rfl : k = 20 := by omega
    have d1 : decide (((20 : Nat) : Int) < 20) = false := by decide
    rw [show decide (0 < 20) = true by decide]
    obtain ⟨cs, hcs⟩ : ∃ cs, cs = seenN (fun j => getC e1 [] j) 20 := ⟨_, rfl⟩
    rw [← hcs] at hk3 ⊢
    unfold SK3
    refine runV d1 trivial ?_
    refine Qr_x ?_
    refine Qb_x (σ1 := SK4 as1 as2 kp t0 t1 e e1 ls cs) ((rebaseB_eq [12] (hbig _ _ _ _ _ _ _)).trans (by kernel_rfl)) ?_
    exact hk3
end
end P1
end Go.Vq
namespace Go.Vq
namespace P1
open Go
set_option maxRecDepth 1000000
set_option maxHeartbeats 8000000
def stepT (tb : List Bool) (a : ActK) : List Bool := if inR a.at' 20 = true then tb.set a.at'.toNat true else tb
def tbOf (l : List ActK) : List Bool := l.foldl stepT (List.replicate 20 false)
theorem tbOf_succ (l : List ActK) (k : Nat) (h : k < l.length) : tbOf (l.take (k + 1)) = stepT (tbOf (l.take k)) l[k] := by
  unfold tbOf
  rw [List.take_add_one, List.getElem?_eq_getElem h, Option.toList_some, List.foldl_append]
  rfl
theorem tbOf_len : ∀ l : List ActK, (tbOf l).length = 20 := by
  intro l
  unfold tbOf
  have : ∀ (l : List ActK) (tb : List Bool), (l.foldl stepT tb).length = tb.length := by
    intro l
    induction l with
    | nil => intro tb; rfl
    | cons a l ih =>
      intro tb
      rw [List.foldl_cons, ih]
      unfold stepT
      split <;> simp
  rw [this]; rfl
section
variable (G : VProg)
def SK5 (as1 as2 : List ActK) (kp : List Nat) (t0 t1 : Int) (e e1 : List (List Nat)) (ls ls2 : List (Nat × List Nat)) (cs : List (List Nat)) (tb : List Bool) (k : Nat) : St :=
  ⟨(.gone 0 :: .isl 0 1 (byN kp) :: .gone 0 :: .gone 0 :: .gone 0 :: .ptr (.obj 1 0) :: .gone 0 :: .gone 0 :: .isl 0 4 (as2.map actK) :: .ptr (.obj 2 0) :: .ptr (.obj 6 0) :: .ptr (.obj 10 0) :: .gone 0 :: .gone 0 :: .ptr (.obj 12 0) :: .gone 0 :: .gone 0 :: .gone 0 :: .gone 0 :: .gone 0 :: .gone 0 :: .gone 0 :: .gone 0 :: .gone 0 :: .gone 0 :: .gone 0 :: .gone 0 :: .gone 0 :: .gone 0 :: .gone 0 :: .gone 0 :: .ptr (.obj 0 1) :: .isl 0 4 (as2.map actK) :: .gone 0 :: .gone 0 :: .gone 0 :: .gone 0 :: .gone 0 :: .gone 0 :: .gone 0 :: .gone 0 :: .gone 0 :: .gone 0 :: .gone 0 :: .gone 0 :: .gone 0 :: .gone 0 :: .gone 0 :: .gone 0 :: .gone 0 :: .gone 0 :: .gone 0 :: .gone 0 :: .gone 0 :: .gone 0 :: .gone 0 :: .gone 0 :: .gone 0 :: .gone 0 :: .gone 0 :: .gone 0 :: .gone 0 :: .gone 0 :: .gone 0 :: .gone 0 :: .gone 0 :: .gone 0 :: .gone 0 :: .gone 0 :: .gone 0 :: .gone 0 :: .gone 0 :: .gone 0 :: .gone 0 :: .gone 0 :: .gone 0 :: .gone 0 :: .gone 0 :: .gone 0 :: .gone 0 :: .gone 0 :: .gone 0 :: .gone 0 :: .gone 0 :: .gone 0 :: .gone 0 :: .gone 0 :: .gone 0 :: .gone 0 :: .gone 0 :: .gone 0 :: .isl 0 4 (as2.map actK) :: .int .i64 as2.length :: .int .i64 k :: .gone 0 :: .gone 0 :: .gone 0 :: .gone 0 :: .gone 0 :: .gone 0 :: .gone 0 :: .gone 0 :: .gone 0 :: .gone 0 :: .gone 0 :: .gone 0 :: .gone 0 :: .gone 0 :: .gone 0 :: .gone 0 :: .gone 0 :: .gone 0 :: .gone 0 :: .gone 0 :: .gone 0 :: .gone 0 :: .gone 0 :: .gone 0 :: .gone 0 :: .gone 0 :: .gone 0 :: .gone 0 :: .gone 0 :: .gone 0 :: .gone 0 :: .gone 0 :: .gone 0 :: .gone 0 :: .gone 0 :: .gone 0 :: .gone 0 :: .gone 0 :: .gone 0 :: .gone 0 :: .gone 0 :: .gone 0 :: .gone 0 :: .gone 0 :: .gone 0 :: .gone 0 :: .gone 0 :: .gone 0 :: .gone 0 :: .gone 0 :: .gone 0 :: .gone 0 :: .gone 0 :: .gone 0 :: .gone 0 :: .gone 0 :: .gone 0 :: .gone 0 :: .gone 0 :: .gone 0 :: .gone 0 :: .gone 0 :: .gone 0 :: .gone 0 :: .gone 0 :: .gone 0 :: .gone 0 :: .gone 0 :: .gone 0 :: .gone 0 :: .gone 0 :: .gone 0 :: .gone 0 :: .gone 0 :: .gone 0 :: .gone 0 :: .gone 0 :: .gone 0 :: .gone 0 :: .gone 0 :: .gone 0 :: .gone 0 :: .gone 0 :: .gone 0 :: .gone 0 :: .gone 0 :: .gone 0 :: .gone 0 :: .gone 0 :: []),
    [ob0 as1 as2, ob1 t0 t1, some (plateO e1 true ls2 false (-1)), none, none, none, some (plateO e false ls false (-1)), none, none, none, boolO tb, none, rowO cs, none, none, none, none]⟩
def SK6 (kp : List Nat) (t0 t1 : Int) (e e1 : List (List Nat)) (ls ls2 : List (Nat × List Nat)) (cs : List (List Nat)) (tb : List Bool) : St :=
  ⟨(.gone 0 :: .isl 0 1 (byN kp) :: .gone 0 :: .gone 0 :: .gone 0 :: .ptr (.obj 1 0) :: .gone 0 :: .gone 0 :: .gone 0 :: .ptr (.obj 2 0) :: .ptr (.obj 6 0) :: .ptr (.obj 10 0) :: .gone 0 :: .gone 0 :: .ptr (.obj 12 0) :: .gone 0 :: .gone 0 :: .gone 0 :: .gone 0 :: .gone 0 :: .gone 0 :: .gone 0 :: .gone 0 :: .gone 0 :: .gone 0 :: .gone 0 :: .gone 0 :: .gone 0 :: .gone 0 :: .gone 0 :: .gone 0 :: .gone 0 :: .gone 0 :: .gone 0 :: .gone 0 :: .gone 0 :: .gone 0 :: .gone 0 :: .gone 0 :: .gone 0 :: .gone 0 :: .gone 0 :: .gone 0 :: .gone 0 :: .gone 0 :: .gone 0 :: .gone 0 :: .gone 0 :: .gone 0 :: .gone 0 :: .gone 0 :: .gone 0 :: .gone 0 :: .gone 0 :: .gone 0 :: .gone 0 :: .gone 0 :: .gone 0 :: .gone 0 :: .gone 0 :: .gone 0 :: .gone 0 :: .gone 0 :: .gone 0 :: .gone 0 :: .gone 0 :: .gone 0 :: .gone 0 :: .gone 0 :: .gone 0 :: .gone 0 :: .gone 0 :: .gone 0 :: .gone 0 :: .gone 0 :: .gone 0 :: .gone 0 :: .gone 0 :: .gone 0 :: .gone 0 :: .gone 0 :: .gone 0 :: .gone 0 :: .gone 0 :: .gone 0 :: .gone 0 :: .gone 0 :: .gone 0 :: .gone 0 :: .gone 0 :: .gone 0 :: .gone 0 :: .gone 0 :: .gone 0 :: .gone 0 :: .gone 0 :: .gone 0 :: .gone 0 :: .gone 0 :: .gone 0 :: .gone 0 :: .gone 0 :: .gone 0 :: .gone 0 :: .gone 0 :: .gone 0 :: .gone 0 :: .gone 0 :: .gone 0 :: .gone 0 :: .gone 0 :: .gone 0 :: .gone 0 :: .gone 0 :: .gone 0 :: .gone 0 :: .gone 0 :: .gone 0 :: .gone 0 :: .gone 0 :: .gone 0 :: .gone 0 :: .gone 0 :: .gone 0 :: .gone 0 :: .gone 0 :: .gone 0 :: .gone 0 :: .gone 0 :: .gone 0 :: .gone 0 :: .gone 0 :: .gone 0 :: .gone 0 :: .gone 0 :: .gone 0 :: .gone 0 :: .gone 0 :: .gone 0 :: .gone 0 :: .gone 0 :: .gone 0 :: .gone 0 :: .gone 0 :: .gone 0 :: .gone 0 :: .gone 0 :: .gone 0 :: .gone 0 :: .gone 0 :: .gone 0 :: .gone 0 :: .gone 0 :: .gone 0 :: .gone 0 :: .gone 0 :: .gone 0 :: .gone 0 :: .gone 0 :: .gone 0 :: .gone 0 :: .gone 0 :: .gone 0 :: .gone 0 :: .gone 0 :: .gone 0 :: .gone 0 :: .gone 0 :: .gone 0 :: .gone 0 :: .gone 0 :: .gone 0 :: .gone 0 :: .gone 0 :: .gone 0 :: .gone 0 :: .gone 0 :: .gone 0 :: .gone 0 :: .gone 0 :: .gone 0 :: .gone 0 :: .gone 0 :: []),
    [none, ob1 t0 t1, some (plateO e1 true ls2 false (-1)), none, none, none, some (plateO e false ls false (-1)), none, none, none, boolO tb, none, rowO cs, none, none, none, none]⟩
theorem k3 (hP : HPutP G) (hC : ∀ v : Nat, v < 256 → lim G 17 [.int .u8 v] [] = some (cellV (cellOf v), [])) (as1 as2 : List ActK) (h2 : as2.length ≤ 60) (hv2 : ∀ a ∈ as2, a.v < 256) (kp : List Nat) (t0 t1 : Int) (e e1 : List (List Nat)) (he : e.length = 20) (he1 : e1.length = 20)
    (ls : List (Nat × List Nat)) (hls : ls.length ≤ 60) (cs : List (List Nat))
    (hk4 : WL G 0 (tl 11 b3) (SK6 kp t0 t1 e e1 (lsOf ls as2) (lsOf [] as2) cs (tbOf as2)) (QK G)) :
    WL G 0 (tl 10 b3) (SK4 as1 as2 kp t0 t1 e e1 ls cs) (QK G) := by
  unfold SK4
  dsimp only [tl, b3]
  refine runV trivial trivial ?_
  have hbig : ∀ (cs : List (List Nat)) (tb : List Bool) (sl : List V) (o0 o1 o2 o6 o11 o13 : Option Obj), BigOk [10, 12] ⟨sl, [o0, o1, o2, none, none, none, o6, none, none, none, boolO tb, o11, rowO cs, o13, none, none, none]⟩ := by
    intro cs tb sl o0 o1 o2 o6 o11 o13 j hj
    simp only [List.mem_cons, List.not_mem_nil, or_false] at hj
    rcases hj with rfl | rfl
    · exact ⟨_, rfl, fun u hu => by obtain ⟨b, _, rfl⟩ := List.mem_map.1 hu; rfl⟩
    · exact ⟨_, rfl, flat_byN _⟩
  refine WL_loop (fun k => SK5 as1 as2 kp t0 t1 e e1 (lsOf ls (as2.take k)) (lsOf [] (as2.take k)) cs (tbOf (as2.take k)) k) (fun k => k ≤ as2.length) (fun k => as2.length - k) ?_ 0 _ (Nat.zero_le _) ((rebaseB_eq [10, 12] (hbig _ (List.replicate 20 false) _ _ _ _ _ _ _)).trans (by kernel_rfl))
  intro k hk
  by_cases hlt : k < as2.length
  · have d1 : decide ((k : Int) < (as2.length : Int)) = true := by simp; omega
    have i1 := inc64 k (by omega)
    have hil : (k : Int) < (as2.length : Int) := by omega
    have hg : (as2.map actK)[k]? = some (actK as2[k]) := by simp [hlt]
    have hsu := lsOf_succ ls as2 k hlt
    have hsu2 := lsOf_succ [] as2 k hlt
    have hsu3 := tbOf_succ as2 k hlt
    have hll : (lsOf ls (as2.take k)).length ≤ 120 := by have := lsOf_len ls (as2.take k); simp at this; omega
    have hll2 : (lsOf [] (as2.take k)).length ≤ 60 := by have := lsOf_len [] (as2.take k); simp at this; omega
    have htl := tbOf_len (as2.take k)
    obtain ⟨la, hla⟩ : ∃ x, x = lsOf ls (as2.take k) := ⟨_, rfl⟩
    obtain ⟨lb, hlb⟩ : ∃ x, x = lsOf [] (as2.take k) := ⟨_, rfl⟩
    obtain ⟨tb, htb⟩ : ∃ x, x = tbOf (as2.take k) := ⟨_, rfl⟩
    rw [← hla] at hll hsu
    rw [← hlb] at hll2 hsu2
    rw [← htb] at htl hsu3
    rw [← hla, ← hlb, ← htb]
    have hvk := hv2 as2[k] (List.getElem_mem _)
    obtain ⟨⟨kd, at', nn, v⟩, ha⟩ : ∃ a, a = as2[k] := ⟨_, rfl⟩
    rw [← ha] at hg hvk hsu hsu2 hsu3
    have g1 := hC v hvk
    have g2 := put20 hP at' (cellOf v) (cellOf_len v) e he false la (by omega)
    have g3 := put20 hP at' (cellOf v) (cellOf_len v) e1 he1 true lb (by omega)
    have hcl := cellOf_len v
    unfold stepP at hsu hsu2
    unfold stepT at hsu3
    simp only at hsu hsu2 hsu3
    obtain ⟨c, hc⟩ : ∃ c, c = cellOf v := ⟨_, rfl⟩
    rw [← hc] at g1 g2 g3 hcl hsu hsu2
    have F := And.intro d1 (And.intro i1 (And.intro hil (And.intro hg (And.intro (apart_cell c) (cfK hcl)))))
    cases hx : inR at' 20 <;> rw [hx] at g2 g3 hsu hsu2 hsu3
    · simp only [Bool.false_eq_true, if_false] at g2 g3 hsu hsu2 hsu3
      have hend : SK5 as1 as2 kp t0 t1 e e1 la lb cs tb (k + 1) = SK5 as1 as2 kp t0 t1 e e1 (lsOf ls (as2.take (k + 1))) (lsOf [] (as2.take (k + 1))) cs (tbOf (as2.take (k + 1))) (k + 1) := by rw [hsu, hsu2, hsu3]
      unfold SK5 at hend ⊢
      refine runV F trivial ?_
      refine Qr_n (k + 1) (Eq.trans ?_ hend) ⟨by omega, by omega⟩
      exact (rebaseB_eq [10, 12] (hbig _ _ _ _ _ _ _ _ _)).trans (by kernel_rfl)
    · simp only [if_true] at g2 g3 hsu hsu2 hsu3
      obtain ⟨n, rfl⟩ : ∃ n : Nat, at' = n := ⟨at'.toNat, by simp [inR] at hx; omega⟩
      have hn : n < 20 := by simp [inR] at hx; omega
      rw [Int.toNat_natCast] at g2 g3 hsu hsu2 hsu3
      have hend : SK5 as1 as2 kp t0 t1 e e1 (la ++ [(n, c)]) (lb ++ [(n, c)]) cs (tb.set n true) (k + 1) = SK5 as1 as2 kp t0 t1 e e1 (lsOf ls (as2.take (k + 1))) (lsOf [] (as2.take (k + 1))) cs (tbOf (as2.take (k + 1))) (k + 1) := by rw [hsu, hsu2, hsu3]
      have f3 : regens (List.take 1 (List.drop (n * 1) (tb.map V.bool))) [V.bool true] = some [V.bool true] := by
        have hn' : n < (tb.map V.bool).length := by rw [List.length_map, htl]; exact hn
        rw [Nat.mul_one, List.drop_eq_getElem_cons hn', List.take_succ_cons, List.take_zero, List.getElem_map]
        rfl
      have f4 : List.take (n * 1) (tb.map V.bool) ++ [V.bool true] ++ List.drop (n * 1 + 1) (tb.map V.bool) = (tb.set n true).map V.bool := by
        rw [List.set_eq_take_append_cons_drop, if_pos (by rw [htl]; exact hn), Nat.mul_one]
        simp [List.map_take, List.map_drop]
      have hbl : (tb.map V.bool).length = 20 := by rw [List.length_map, htl]
      have hni : (0 : Int) ≤ (n : Int) ∧ (n : Int) < 20 := by omega
      have hno : n * 1 + 1 ≤ 20 := by omega
      unfold SK5 at hend ⊢
      refine runV (And.intro f3 (And.intro hbl F)) (And.intro hni hno) ?_
      rw [f4]
      refine Qr_n (k + 1) (Eq.trans ?_ hend) ⟨by omega, by omega⟩
      exact (rebaseB_eq [10, 12] (hbig _ _ _ _ _ _ _ _ _)).trans (by kernel_rfl)
  · obtain rfl : k = as2.length := by omega
    have d1 : decide ((as2.length : Int) < (as2.length : Int)) = false := by simp
    rw [List.take_length]
    obtain ⟨la, hla⟩ : ∃ x, x = lsOf ls as2 := ⟨_, rfl⟩
    obtain ⟨lb, hlb⟩ : ∃ x, x = lsOf [] as2 := ⟨_, rfl⟩
    obtain ⟨tb, htb⟩ : ∃ x, x = tbOf as2 := ⟨_, rfl⟩
    rw [← hla, ← hlb, ← htb] at hk4 ⊢
    unfold SK5
    refine runV d1 trivial ?_
    refine Qr_x ?_
    refine Qb_x (σ1 := SK6 kp t0 t1 e e1 la lb cs tb) ((rebaseB_eq [10, 12] (hbig _ _ _ _ _ _ _ _ _)).trans (by kernel_rfl)) ?_
    exact hk4
end
end P1
end Go.Vq
namespace Go.Vq
namespace P1
open Go
set_option maxRecDepth 1000000
set_option maxHeartbeats 8000000
section
variable (G : VProg)
def SK7 (kp : List Nat) (t0 t1 : Int) (e e1 : List (List Nat)) (ls ls2 : List (Nat × List Nat)) (cs ss : List (List Nat)) (tb : List Bool) (fz : Bool) (k : Nat) : St :=
  ⟨(.gone 0 :: .isl 0 1 (byN kp) :: .gone 0 :: .gone 0 :: .gone 0 :: .ptr (.obj 1 0) :: .gone 0 :: .gone 0 :: .gone 0 :: .ptr (.obj 2 0) :: .ptr (.obj 6 0) :: .ptr (.obj 10 0) :: .gone 0 :: .gone 0 :: .ptr (.obj 12 0) :: .gone 0 :: .gone 0 :: .gone 0 :: .ptr (.obj 14 0) :: .gone 0 :: .gone 0 :: .gone 0 :: .gone 0 :: .gone 0 :: .gone 0 :: .gone 0 :: .gone 0 :: .gone 0 :: .gone 0 :: .gone 0 :: .gone 0 :: .gone 0 :: .gone 0 :: .gone 0 :: .gone 0 :: .gone 0 :: .gone 0 :: .gone 0 :: .gone 0 :: .gone 0 :: .gone 0 :: .gone 0 :: .gone 0 :: .gone 0 :: .gone 0 :: .gone 0 :: .gone 0 :: .gone 0 :: .gone 0 :: .gone 0 :: .gone 0 :: .gone 0 :: .gone 0 :: .gone 0 :: .gone 0 :: .gone 0 :: .gone 0 :: .gone 0 :: .gone 0 :: .gone 0 :: .gone 0 :: .gone 0 :: .gone 0 :: .gone 0 :: .gone 0 :: .gone 0 :: .gone 0 :: .gone 0 :: .gone 0 :: .gone 0 :: .gone 0 :: .gone 0 :: .gone 0 :: .gone 0 :: .gone 0 :: .gone 0 :: .gone 0 :: .gone 0 :: .gone 0 :: .gone 0 :: .gone 0 :: .gone 0 :: .gone 0 :: .gone 0 :: .gone 0 :: .gone 0 :: .gone 0 :: .gone 0 :: .gone 0 :: .gone 0 :: .gone 0 :: .gone 0 :: .gone 0 :: .gone 0 :: .gone 0 :: .gone 0 :: .gone 0 :: .gone 0 :: .gone 0 :: .gone 0 :: .gone 0 :: .gone 0 :: .gone 0 :: .gone 0 :: .gone 0 :: .gone 0 :: .gone 0 :: .gone 0 :: .gone 0 :: .gone 0 :: .gone 0 :: .gone 0 :: .gone 0 :: .gone 0 :: .gone 0 :: .gone 0 :: .gone 0 :: .int .i64 k :: .gone 0 :: .gone 0 :: .gone 0 :: .gone 0 :: .gone 0 :: .gone 0 :: .gone 0 :: .gone 0 :: .gone 0 :: .gone 0 :: .gone 0 :: .gone 0 :: .gone 0 :: .gone 0 :: .gone 0 :: .gone 0 :: .gone 0 :: .gone 0 :: .gone 0 :: .gone 0 :: .gone 0 :: .gone 0 :: .gone 0 :: .gone 0 :: .gone 0 :: .gone 0 :: .gone 0 :: .gone 0 :: .gone 0 :: .gone 0 :: .gone 0 :: .gone 0 :: .gone 0 :: .gone 0 :: .gone 0 :: .gone 0 :: .gone 0 :: .gone 0 :: .gone 0 :: .gone 0 :: .gone 0 :: .gone 0 :: .gone 0 :: .gone 0 :: .gone 0 :: .gone 0 :: .gone 0 :: .gone 0 :: .gone 0 :: .gone 0 :: .gone 0 :: .gone 0 :: .gone 0 :: .gone 0 :: .gone 0 :: .gone 0 :: .gone 0 :: .gone 0 :: .gone 0 :: .gone 0 :: .gone 0 :: .gone 0 :: .gone 0 :: .gone 0 :: .gone 0 :: []),
    [none, ob1 t0 t1, some (plateO e1 true ls2 false (-1)), none, none, none, some (plateO e fz ls false (-1)), none, none, none, boolO tb, none, rowO cs, none, rowO ss, none, none]⟩
def SK8 (kp : List Nat) (t0 t1 : Int) (e e1 : List (List Nat)) (ls ls2 : List (Nat × List Nat)) (cs ss : List (List Nat)) (tb : List Bool) : St :=
  ⟨(.gone 0 :: .isl 0 1 (byN kp) :: .gone 0 :: .gone 0 :: .gone 0 :: .ptr (.obj 1 0) :: .gone 0 :: .gone 0 :: .gone 0 :: .ptr (.obj 2 0) :: .ptr (.obj 6 0) :: .ptr (.obj 10 0) :: .gone 0 :: .gone 0 :: .ptr (.obj 12 0) :: .gone 0 :: .gone 0 :: .gone 0 :: .ptr (.obj 14 0) :: .gone 0 :: .gone 0 :: .gone 0 :: .gone 0 :: .gone 0 :: .gone 0 :: .gone 0 :: .gone 0 :: .gone 0 :: .gone 0 :: .gone 0 :: .gone 0 :: .gone 0 :: .gone 0 :: .gone 0 :: .gone 0 :: .gone 0 :: .gone 0 :: .gone 0 :: .gone 0 :: .gone 0 :: .gone 0 :: .gone 0 :: .gone 0 :: .gone 0 :: .gone 0 :: .gone 0 :: .gone 0 :: .gone 0 :: .gone 0 :: .gone 0 :: .gone 0 :: .gone 0 :: .gone 0 :: .gone 0 :: .gone 0 :: .gone 0 :: .gone 0 :: .gone 0 :: .gone 0 :: .gone 0 :: .gone 0 :: .gone 0 :: .gone 0 :: .gone 0 :: .gone 0 :: .gone 0 :: .gone 0 :: .gone 0 :: .gone 0 :: .gone 0 :: .gone 0 :: .gone 0 :: .gone 0 :: .gone 0 :: .gone 0 :: .gone 0 :: .gone 0 :: .gone 0 :: .gone 0 :: .gone 0 :: .gone 0 :: .gone 0 :: .gone 0 :: .gone 0 :: .gone 0 :: .gone 0 :: .gone 0 :: .gone 0 :: .gone 0 :: .gone 0 :: .gone 0 :: .gone 0 :: .gone 0 :: .gone 0 :: .gone 0 :: .gone 0 :: .gone 0 :: .gone 0 :: .gone 0 :: .gone 0 :: .gone 0 :: .gone 0 :: .gone 0 :: .gone 0 :: .gone 0 :: .gone 0 :: .gone 0 :: .gone 0 :: .gone 0 :: .gone 0 :: .gone 0 :: .gone 0 :: .gone 0 :: .gone 0 :: .gone 0 :: .gone 0 :: .gone 0 :: .gone 0 :: .gone 0 :: .gone 0 :: .gone 0 :: .gone 0 :: .gone 0 :: .gone 0 :: .gone 0 :: .gone 0 :: .gone 0 :: .gone 0 :: .gone 0 :: .gone 0 :: .gone 0 :: .gone 0 :: .gone 0 :: .gone 0 :: .gone 0 :: .gone 0 :: .gone 0 :: .gone 0 :: .gone 0 :: .gone 0 :: .gone 0 :: .gone 0 :: .gone 0 :: .gone 0 :: .gone 0 :: .gone 0 :: .gone 0 :: .gone 0 :: .gone 0 :: .gone 0 :: .gone 0 :: .gone 0 :: .gone 0 :: .gone 0 :: .gone 0 :: .gone 0 :: .gone 0 :: .gone 0 :: .gone 0 :: .gone 0 :: .gone 0 :: .gone 0 :: .gone 0 :: .gone 0 :: .gone 0 :: .gone 0 :: .gone 0 :: .gone 0 :: .gone 0 :: .gone 0 :: .gone 0 :: .gone 0 :: .gone 0 :: .gone 0 :: .gone 0 :: .gone 0 :: .gone 0 :: .gone 0 :: .gone 0 :: .gone 0 :: .gone 0 :: .gone 0 :: .gone 0 :: []),
    [none, ob1 t0 t1, some (plateO e1 true ls2 false (-1)), none, none, none, some (plateO e true ls false (-1)), none, none, none, boolO tb, none, rowO cs, none, rowO ss, none, none]⟩
theorem big3 (cs ss : List (List Nat)) (tb : List Bool) (sl : List V) (o0 o1 o2 o6 o11 o13 o15 o16 : Option Obj) : BigOk [10, 12, 14] ⟨sl, [o0, o1, o2, none, none, none, o6, none, none, none, boolO tb, o11, rowO cs, o13, rowO ss, o15, o16]⟩ := by
  intro j hj
  simp only [List.mem_cons, List.not_mem_nil, or_false] at hj
  rcases hj with rfl | rfl | rfl
  · exact ⟨_, rfl, fun u hu => by obtain ⟨b, _, rfl⟩ := List.mem_map.1 hu; rfl⟩
  · exact ⟨_, rfl, flat_byN _⟩
  · exact ⟨_, rfl, flat_byN _⟩
theorem k4 (hg : HGetP G) (kp : List Nat) (t0 t1 : Int) (e e1 : List (List Nat)) (he : e.length = 20) (h64 : ∀ c ∈ e, c.length = 64) (ls ls2 : List (Nat × List Nat)) (hls : ls.length < 1000) (hl64 : ∀ w ∈ ls, w.2.length = 64) (hlc : ∀ i, (getC e ls i).length = 64) (cs : List (List Nat)) (tb : List Bool)
    (hk5 : WL G 0 (tl 13 b3) (SK8 kp t0 t1 e e1 ls ls2 cs (seenN (fun j => getC e ls j) 20) tb) (QK G)) :
    WL G 0 (tl 11 b3) (SK6 kp t0 t1 e e1 ls ls2 cs tb) (QK G) := by
  unfold SK6
  dsimp only [tl, b3]
  refine runV trivial trivial ?_
  refine WL_loop (fun k => SK7 kp t0 t1 e e1 ls ls2 cs (seenN (fun j => getC e ls j) k) tb (decide (0 < k)) k) (fun k => k ≤ 20) (fun k => 20 - k) ?_ 0 _ (Nat.zero_le _) ((rebaseB_eq [10, 12] (by
    intro j hj
    simp only [List.mem_cons, List.not_mem_nil, or_false] at hj
    rcases hj with rfl | rfl
    · exact ⟨_, rfl, fun u hu => by obtain ⟨b, _, rfl⟩ := List.mem_map.1 hu; rfl⟩
    · exact ⟨_, rfl, flat_byN _⟩)).trans (by kernel_rfl))
  intro k hk
  by_cases hlt : k < 20
  · have d1 : decide ((k : Int) < 20) = true := by simp; omega
    have i1 := inc64 k (by omega)
    have hki : (0 : Int) ≤ (k : Int) ∧ (k : Int) < 20 := by omega
    have hsu := seenN_succ (fun j => getC e ls j) k hlt
    have h64' := seenN_64 (fun j => getC e ls j) (fun j => hlc j) k
    have hl20 := seenN_len (fun j => getC e ls (j : Int)) k
    have hgk := fun fz => get20 hg k hlt e he h64 fz ls hl64 hls
    have hcl := hlc k
    obtain ⟨ss, hss⟩ : ∃ ss, ss = seenN (fun j => getC e ls j) k := ⟨_, rfl⟩
    obtain ⟨c, hc⟩ : ∃ c, c = getC e ls k := ⟨_, rfl⟩
    rw [← hss] at h64' hl20 hsu ⊢
    rw [← hc] at hcl hsu
    simp only [← hc] at hgk
    obtain ⟨f3, hln, f4⟩ := row_facts ss hl20 h64' k hlt c hcl
    have hoff : k * 64 + 64 ≤ 1280 := by omega
    have rg := regens_gA (n := 63) hcl
    have F := And.intro d1 (And.intro i1 (And.intro f3 (And.intro hln (And.intro (hx_cell c 0) (cfK hcl)))))
    have hend : SK7 kp t0 t1 e e1 ls ls2 cs (ss.set k c) tb true (k + 1) = SK7 kp t0 t1 e e1 ls ls2 cs (seenN (fun j => getC e ls j) (k + 1)) tb (decide (0 < k + 1)) (k + 1) := by
      rw [hsu, show decide (0 < k + 1) = true by simp]
    cases hz : decide (0 < k)
    · have g1 := hgk false
      unfold SK7 at hend ⊢
      refine runV F (And.intro rg (And.intro hki hoff)) ?_
      rw [f4]
      refine Qr_n (k + 1) (Eq.trans ?_ hend) ⟨by omega, by omega⟩
      exact (rebaseB_eq [10, 12, 14] (big3 _ _ _ _ _ _ _ _ _ _ _ _)).trans (by kernel_rfl)
    · have g1 := hgk true
      unfold SK7 at hend ⊢
      refine runV F (And.intro rg (And.intro hki hoff)) ?_
      rw [f4]
      refine Qr_n (k + 1) (Eq.trans ?_ hend) ⟨by omega, by omega⟩
      exact (rebaseB_eq [10, 12, 14] (big3 _ _ _ _ _ _ _ _ _ _ _ _)).trans (by kernel_rfl)
  · obtain rfl : k = 20 := by omega
    have d1 : decide (((20 : Nat) : Int) < 20) = false := by decide
    rw [show decide (0 < 20) = true by decide]
    obtain ⟨ss, hss⟩ : ∃ ss, ss = seenN (fun j => getC e ls j) 20 := ⟨_, rfl⟩
    rw [← hss] at hk5 ⊢
    unfold SK7
    refine runV d1 trivial ?_
    refine Qr_x ?_
    refine Qb_x (σ1 := SK8 kp t0 t1 e e1 ls ls2 cs ss tb) ((rebaseB_eq [10, 12, 14] (big3 _ _ _ _ _ _ _ _ _ _ _ _)).trans (by kernel_rfl)) ?_
    exact hk5
end
end P1
end Go.Vq
