/- A machine of values and its tie to the model, and runs of it: part 15 of 15 (no law of Go is stated here). -/
import Derived.Test.YtmhpkajjomgbhaaF14
set_option linter.unusedVariables false
set_option linter.unusedSimpArgs false
set_option linter.unusedSectionVars false
namespace Go.Vq
namespace P1
open Go
set_option maxRecDepth 1000000
set_option maxHeartbeats 8000000
abbrev b9 : VCode := .seq (.region [⟨some 0, .assign (.val (.bool false)), none, 0⟩] false) (.seq (.region [⟨some 8, .buildSlice 1 [(.int .i64 0), (.int .i64 0), (.int .i64 0)] [(0, (.val (.int .i64 64))), (1, (.val (.int .i64 32))), (2, (.val (.int .i64 64)))], none, 0⟩, ⟨some 9, .call true 10 0 [(.tmp 8)], none, 1⟩, ⟨some 7, .move (.tmp 9), none, 3⟩, ⟨some 10, .extract (.tmp 7) 0, none, 7⟩, ⟨some 11, .extract (.tmp 7) 1, none, 7⟩, ⟨some 1, .assign (.tmp 10), none, 15⟩, ⟨some 2, .assign (.tmp 11), none, 63⟩] false) (.seq (.region [⟨some 13, .move (.tmp 1), none, 0⟩, ⟨some 14, .call true 13 0 [(.tmp 13), (.val (.int .i64 64))], none, 1⟩, ⟨some 12, .move (.tmp 14), none, 3⟩, ⟨some 15, .extract (.tmp 12) 0, none, 7⟩, ⟨some 16, .extract (.tmp 12) 1, none, 7⟩, ⟨some 3, .assign (.tmp 15), none, 15⟩, ⟨some 4, .assign (.tmp 16), none, 63⟩] false) (.seq (.region [⟨some 18, .call true 15 0 [(.val (.int .i64 130))], none, 0⟩, ⟨some 17, .move (.tmp 18), none, 1⟩, ⟨some 19, .extract (.tmp 17) 0, none, 3⟩, ⟨some 20, .extract (.tmp 17) 1, none, 3⟩, ⟨some 5, .assign (.tmp 19), none, 7⟩, ⟨some 6, .assign (.tmp 20), none, 31⟩] false) (.seq (.region [⟨some 21, .move (.tmp 2), none, 0⟩, ⟨some 22, .eq false (.num) (.tmp 21) (.val (.int .i64 0)), none, 1⟩, ⟨some 23, .move (.tmp 22), none, 3⟩, ⟨some 24, .move (.tmp 1), some (23, true), 7⟩, ⟨some 25, .buildSlice 1 [(.int .i64 0), (.int .i64 0)] [(0, (.val (.int .i64 32))), (1, (.val (.int .i64 64)))], some (23, true), 7⟩, ⟨some 26, .call true 12 0 [(.tmp 24), (.tmp 25)], some (23, true), 31⟩, ⟨some 27, .pick (.tmp 23) (.tmp 26) (.val (.bool false)), none, 63⟩, ⟨some 28, .move (.tmp 27), none, 127⟩, ⟨some 29, .move (.tmp 4), some (28, true), 255⟩, ⟨some 30, .eq false (.num) (.tmp 29) (.val (.int .i64 0)), some (28, true), 511⟩, ⟨some 31, .pick (.tmp 28) (.tmp 30) (.val (.bool false)), none, 1023⟩, ⟨some 32, .move (.tmp 31), none, 2047⟩, ⟨some 33, .move (.tmp 3), some (32, true), 4095⟩, ⟨some 34, .eq false (.num) (.tmp 33) (.val (.int .i64 128)), some (32, true), 8191⟩, ⟨some 35, .pick (.tmp 32) (.tmp 34) (.val (.bool false)), none, 16383⟩, ⟨some 36, .move (.tmp 35), none, 32767⟩, ⟨some 37, .move (.tmp 5), some (36, true), 65535⟩, ⟨some 38, .eq false (.num) (.tmp 37) (.val (.int .i64 1)), some (36, true), 131071⟩, ⟨some 39, .pick (.tmp 36) (.tmp 38) (.val (.bool false)), none, 262143⟩, ⟨some 40, .move (.tmp 39), none, 524287⟩, ⟨some 41, .move (.tmp 6), some (40, true), 1048575⟩, ⟨some 42, .eq false (.num) (.tmp 41) (.val (.int .i64 34)), some (40, true), 2097151⟩, ⟨some 43, .pick (.tmp 40) (.tmp 42) (.val (.bool false)), none, 4194303⟩, ⟨some 0, .assign (.tmp 43), none, 8388607⟩] false) (.ret)))))
abbrev v9 : VFunc := { nparams := 0, ntmps := 44, nsites := 0, results := [.tmp 0], body := b9 }
abbrev b8 : VCode := .seq (.region [⟨some 0, .assign (.val (.bool false)), none, 0⟩] false) (.seq (.region [⟨some 16, .call true 10 0 [(.val (.nilS 1))], none, 0⟩, ⟨some 15, .move (.tmp 16), none, 1⟩, ⟨some 17, .extract (.tmp 15) 0, none, 3⟩, ⟨some 18, .extract (.tmp 15) 1, none, 3⟩, ⟨some 1, .assign (.tmp 17), none, 7⟩, ⟨some 2, .assign (.tmp 18), none, 31⟩] false) (.seq (.region [⟨some 20, .buildSlice 1 [(.int .i64 0)] [(0, (.val (.int .i64 96)))], none, 0⟩, ⟨some 21, .call true 10 0 [(.tmp 20)], none, 1⟩, ⟨some 19, .move (.tmp 21), none, 3⟩, ⟨some 22, .extract (.tmp 19) 0, none, 7⟩, ⟨some 23, .extract (.tmp 19) 1, none, 7⟩, ⟨some 3, .assign (.tmp 22), none, 15⟩, ⟨some 4, .assign (.tmp 23), none, 63⟩] false) (.seq (.region [⟨some 25, .buildSlice 1 [(.int .i64 0)] [(0, (.val (.int .i64 1)))], none, 0⟩, ⟨some 26, .call true 13 0 [(.tmp 25), (.val (.int .i64 1099511627776))], none, 1⟩, ⟨some 24, .move (.tmp 26), none, 3⟩, ⟨some 27, .extract (.tmp 24) 0, none, 7⟩, ⟨some 28, .extract (.tmp 24) 1, none, 7⟩, ⟨some 5, .assign (.tmp 27), none, 15⟩, ⟨some 6, .assign (.tmp 28), none, 63⟩] false) (.seq (.region [⟨some 30, .buildSlice 1 [(.int .i64 0), (.int .i64 0)] [(0, (.val (.int .i64 5))), (1, (.val (.int .i64 5)))], none, 0⟩, ⟨some 31, .call true 13 0 [(.tmp 30), (.val (.int .i64 0))], none, 1⟩, ⟨some 29, .move (.tmp 31), none, 3⟩, ⟨some 32, .extract (.tmp 29) 0, none, 7⟩, ⟨some 33, .extract (.tmp 29) 1, none, 7⟩, ⟨some 7, .assign (.tmp 32), none, 15⟩, ⟨some 8, .assign (.tmp 33), none, 63⟩] false) (.seq (.region [⟨some 35, .call true 16 0 [(.val (.int .i64 1099511627776))], none, 0⟩, ⟨some 34, .move (.tmp 35), none, 1⟩, ⟨some 36, .extract (.tmp 34) 0, none, 3⟩, ⟨some 37, .extract (.tmp 34) 1, none, 3⟩, ⟨some 9, .assign (.tmp 36), none, 7⟩, ⟨some 10, .assign (.tmp 37), none, 31⟩] false) (.seq (.region [⟨some 39, .call true 16 0 [(.val (.int .i64 95))], none, 0⟩, ⟨some 38, .move (.tmp 39), none, 1⟩, ⟨some 40, .extract (.tmp 38) 0, none, 3⟩, ⟨some 41, .extract (.tmp 38) 1, none, 3⟩, ⟨some 11, .assign (.tmp 40), none, 7⟩, ⟨some 12, .assign (.tmp 41), none, 31⟩] false) (.seq (.region [⟨some 43, .buildSlice 1 [(.int .i64 0)] [(0, (.val (.int .i64 0)))], none, 0⟩, ⟨some 44, .call true 19 0 [(.tmp 43), (.val (.int .i64 5)), (.val (.int .i64 4))], none, 1⟩, ⟨some 42, .move (.tmp 44), none, 3⟩, ⟨some 45, .extract (.tmp 42) 0, none, 7⟩, ⟨some 46, .extract (.tmp 42) 1, none, 7⟩, ⟨some 13, .assign (.tmp 45), none, 15⟩, ⟨some 14, .assign (.tmp 46), none, 63⟩] false) (.seq (.region [⟨some 47, .call true 9 0 [], none, 0⟩, ⟨some 48, .move (.tmp 47), none, 1⟩, ⟨some 49, .pick (.tmp 48) (.val (.bool true)) (.val (.bool false)), none, 3⟩, ⟨some 50, .move (.tmp 49), none, 7⟩, ⟨some 51, .pick (.tmp 50) (.val (.bool true)) (.val (.bool false)), none, 15⟩, ⟨some 52, .move (.tmp 51), none, 31⟩, ⟨some 53, .pick (.tmp 52) (.val (.bool true)) (.val (.bool false)), none, 63⟩, ⟨some 54, .move (.tmp 53), none, 127⟩, ⟨some 55, .move (.tmp 2), some (54, true), 255⟩, ⟨some 56, .eq false (.num) (.tmp 55) (.val (.int .i64 31)), some (54, true), 511⟩, ⟨some 57, .pick (.tmp 54) (.tmp 56) (.val (.bool false)), none, 1023⟩, ⟨some 58, .move (.tmp 57), none, 2047⟩, ⟨some 59, .move (.tmp 4), some (58, true), 4095⟩, ⟨some 60, .eq false (.num) (.tmp 59) (.val (.int .i64 31)), some (58, true), 8191⟩, ⟨some 61, .pick (.tmp 58) (.tmp 60) (.val (.bool false)), none, 16383⟩, ⟨some 62, .move (.tmp 61), none, 32767⟩, ⟨some 63, .move (.tmp 6), some (62, true), 65535⟩, ⟨some 64, .eq false (.num) (.tmp 63) (.val (.int .i64 31)), some (62, true), 131071⟩, ⟨some 65, .pick (.tmp 62) (.tmp 64) (.val (.bool false)), none, 262143⟩, ⟨some 66, .move (.tmp 65), none, 524287⟩, ⟨some 67, .move (.tmp 8), some (66, true), 1048575⟩, ⟨some 68, .eq false (.num) (.tmp 67) (.val (.int .i64 31)), some (66, true), 2097151⟩, ⟨some 69, .pick (.tmp 66) (.tmp 68) (.val (.bool false)), none, 4194303⟩, ⟨some 70, .move (.tmp 69), none, 8388607⟩, ⟨some 71, .move (.tmp 10), some (70, true), 16777215⟩, ⟨some 72, .eq false (.num) (.tmp 71) (.val (.int .i64 31)), some (70, true), 33554431⟩, ⟨some 73, .pick (.tmp 70) (.tmp 72) (.val (.bool false)), none, 67108863⟩, ⟨some 74, .move (.tmp 73), none, 134217727⟩, ⟨some 75, .move (.tmp 11), some (74, true), 268435455⟩, ⟨some 76, .eq false (.num) (.tmp 75) (.val (.int .i64 96)), some (74, true), 536870911⟩, ⟨some 77, .pick (.tmp 74) (.tmp 76) (.val (.bool false)), none, 1073741823⟩, ⟨some 78, .move (.tmp 77), none, 2147483647⟩, ⟨some 79, .move (.tmp 12), some (78, true), 4294967295⟩, ⟨some 80, .eq false (.num) (.tmp 79) (.val (.int .i64 0)), some (78, true), 8589934591⟩, ⟨some 81, .pick (.tmp 78) (.tmp 80) (.val (.bool false)), none, 17179869183⟩, ⟨some 82, .move (.tmp 81), none, 34359738367⟩, ⟨some 83, .move (.tmp 14), some (82, true), 68719476735⟩, ⟨some 84, .eq false (.num) (.tmp 83) (.val (.int .i64 31)), some (82, true), 137438953471⟩, ⟨some 85, .pick (.tmp 82) (.tmp 84) (.val (.bool false)), none, 274877906943⟩, ⟨some 0, .assign (.tmp 85), none, 549755813887⟩] false) (.ret)))))))))
abbrev v8 : VFunc := { nparams := 0, ntmps := 86, nsites := 0, results := [.tmp 0], body := b8 }
abbrev b3 : VCode := .seq (.region [⟨some 2, .assign (.val (.bool false)), none, 0⟩] false) (.seq (.seq (.region [⟨some 8, .call true 9 0 [], none, 0⟩, ⟨some 9, .un (.not) (.tmp 8), none, 1⟩] false) (.cond (.tmp 9) (.seq (.region [⟨some 2, .assign (.val (.bool false)), none, 0⟩] false) (.ret)) (.skip))) (.seq (.seq (.region [⟨some 10, .move (.tmp 0), none, 0⟩, ⟨some 11, .len (.slc 1) (.tmp 10), none, 1⟩, ⟨some 12, .bin (.gtr) (.tmp 11) (.val (.int .i64 200)), none, 3⟩] false) (.cond (.tmp 12) (.seq (.region [⟨some 2, .assign (.val (.bool true)), none, 0⟩] false) (.ret)) (.skip))) (.seq (.region [⟨some 13, .buildSlice 1 [] [], none, 0⟩, ⟨some 14, .move (.tmp 0), none, 0⟩, ⟨some 15, .append 1 8 (.tmp 13) (.tmp 14), none, 3⟩, ⟨some 3, .assign (.tmp 15), none, 7⟩] false) (.seq (.region [⟨some 17, .move (.tmp 3), none, 0⟩, ⟨some 18, .call true 10 0 [(.tmp 17)], none, 1⟩, ⟨some 16, .move (.tmp 18), none, 3⟩, ⟨some 19, .extract (.tmp 16) 0, none, 7⟩, ⟨some 20, .extract (.tmp 16) 1, none, 7⟩, ⟨some 4, .assign (.tmp 19), none, 15⟩, ⟨some 5, .assign (.tmp 20), none, 63⟩] false) (.seq (.region [⟨some 22, .move (.tmp 0), none, 0⟩, ⟨some 23, .call true 11 0 [(.tmp 22)], none, 1⟩, ⟨some 21, .move (.tmp 23), none, 3⟩, ⟨some 24, .extract (.tmp 21) 0, none, 7⟩, ⟨some 25, .extract (.tmp 21) 1, none, 7⟩, ⟨some 6, .assign (.tmp 24), none, 15⟩, ⟨some 7, .assign (.tmp 25), none, 63⟩] false) (.seq (.region [⟨some 26, .move (.tmp 4), none, 0⟩, ⟨some 27, .move (.tmp 6), none, 0⟩, ⟨some 28, .call true 12 0 [(.tmp 26), (.tmp 27)], none, 3⟩, ⟨some 29, .move (.tmp 28), none, 7⟩, ⟨some 30, .move (.tmp 5), some (29, true), 15⟩, ⟨some 31, .move (.tmp 7), some (29, true), 15⟩, ⟨some 32, .eq false (.num) (.tmp 30) (.tmp 31), some (29, true), 63⟩, ⟨some 33, .pick (.tmp 29) (.tmp 32) (.val (.bool false)), none, 127⟩, ⟨some 34, .move (.tmp 33), none, 255⟩, ⟨some 35, .move (.tmp 3), some (34, true), 511⟩, ⟨some 36, .move (.tmp 0), some (34, true), 511⟩, ⟨some 37, .call true 12 0 [(.tmp 35), (.tmp 36)], some (34, true), 2047⟩, ⟨some 38, .pick (.tmp 34) (.tmp 37) (.val (.bool false)), none, 4095⟩, ⟨some 2, .assign (.tmp 38), none, 8191⟩] false) (.ret)))))))
abbrev v3 : VFunc := { nparams := 1, ntmps := 39, nsites := 0, results := [.tmp 2], body := b3 }
def doorsV (l : List Int) : V := if fitsD (cpt l) then .tup [.xsl 0 1 (iV (cpt l)), .int .i64 0] else .tup [.xsl 0 1 [], .int .i64 31]
theorem doorsV_eq (l : List Int) : doorsV l = if inD l = true ∧ l ≠ [] then .tup [.xsl 0 1 (iV (uptoD l 96)), .int .i64 0] else .tup [.xsl 0 1 [], .int .i64 31] := by
  unfold doorsV
  rw [cpt_fits]
  by_cases h : inD l = true ∧ l ≠ []
  · rw [if_pos h, if_pos (by simp [h]), cpt_upto l h.1]
  · rw [if_neg h, if_neg (by simpa using h)]
abbrev HDrs (G : VProg) : Prop := ∀ (l : List Int) (_ : l.length < 2 ^ 44), lim G 10 [.isl 0 1 (iV l)] [] = some (doorsV l, [])
abbrev HNext (G : VProg) : Prop := ∀ (l : List Int) (_ : l.length < 2 ^ 44) (t : Int), lim G 13 [.isl 0 1 (iV l), .int .i64 t] [] = some (nextV l t, [])
abbrev HPassed (G : VProg) : Prop := ∀ (l : List Int) (_ : l.length < 2 ^ 44) (a b : Int), lim G 19 [.isl 0 1 (iV l), .int .i64 a, .int .i64 b] [] = some (passedV l a b, [])
abbrev HEnd (G : VProg) : Prop := ∀ t : Int, lim G 16 [.int .i64 t] [] = some (endV t, [])
abbrev HSame (G : VProg) : Prop := ∀ (l : List Int) (_ : l.length < 2 ^ 44), lim G 12 [.isl 0 1 (iV l), .isl 0 1 (iV l)] [] = some (.bool true, [])
theorem apartI (up : List Int) (k : Int) : (V.tup [.xsl 0 1 (iV up), .int .i64 k]).apart = true := by
  simp [V.apart, V.leaves, V.cells, V.noslice]
section
variable (G : VProg)
theorem dalive (hG : G 9 = some (.code v9)) (hD : HDrs G) (hN : HNext G) (hO : HOf G) (hS : HSame G) : lim G 9 [] [] = some (.bool true, []) := by
  have t1 : lim G 10 [.isl 0 1 [.int .i64 64, .int .i64 32, .int .i64 64]] [] = some (.tup [.xsl 0 1 [.int .i64 32, .int .i64 64], .int .i64 0], []) := by
    have := hD [64, 32, 64] (by decide)
    rw [doorsV_eq, if_pos (by decide), show uptoD [64, 32, 64] 96 = [32, 64] by decide] at this
    exact this
  have t2 : lim G 13 [.isl 0 1 [.int .i64 32, .int .i64 64], .int .i64 64] [] = some (.tup [.int .i64 128, .int .i64 0], []) := hN [32, 64] (by decide) 64
  have t3 : lim G 15 [.int .i64 130] [] = some (.tup [.int .i64 1, .int .i64 34], []) := hO 130
  have t4 : lim G 12 [.isl 0 1 [.int .i64 32, .int .i64 64], .isl 0 1 [.int .i64 32, .int .i64 64]] [] = some (.bool true, []) := hS [32, 64] (by decide)
  exact lim_fun hG (h := runV trivial trivial trivial)
theorem dnames (hG : G 8 = some (.code v8)) (hA : lim G 9 [] [] = some (.bool true, [])) (hD : HDrs G) (hN : HNext G) (hP : HPassed G) (hE : HEnd G) : lim G 8 [] [] = some (.bool true, []) := by
  have t1 : lim G 10 [.isl 0 1 []] [] = some (.tup [.xsl 0 1 [], .int .i64 31], []) := by
    have := hD [] (by decide)
    rw [doorsV_eq, if_neg (by decide)] at this
    exact this
  have t2 : lim G 10 [.isl 0 1 [.int .i64 96]] [] = some (.tup [.xsl 0 1 [], .int .i64 31], []) := by
    have := hD [96] (by decide)
    rw [doorsV_eq, if_neg (by decide)] at this
    exact this
  have t3 : lim G 13 [.isl 0 1 [.int .i64 1], .int .i64 1099511627776] [] = some (.tup [.int .i64 0, .int .i64 31], []) := hN [1] (by decide) 1099511627776
  have t4 : lim G 13 [.isl 0 1 [.int .i64 5, .int .i64 5], .int .i64 0] [] = some (.tup [.int .i64 0, .int .i64 31], []) := hN [5, 5] (by decide) 0
  have t5 : lim G 16 [.int .i64 1099511627776] [] = some (.tup [.int .i64 0, .int .i64 31], []) := hE 1099511627776
  have t6 : lim G 16 [.int .i64 95] [] = some (.tup [.int .i64 96, .int .i64 0], []) := hE 95
  have t7 : lim G 19 [.isl 0 1 [.int .i64 0], .int .i64 5, .int .i64 4] [] = some (.tup [.int .i64 0, .int .i64 31], []) := hP [0] (by decide) 5 4
  exact lim_fun hG (h := runV trivial trivial trivial)
theorem dayDoors (hG : G 3 = some (.code v3)) (hA : lim G 9 [] [] = some (.bool true, [])) (hD : HDrs G)
    (hR : ∀ (l : List Int) (_ : l.length < 2 ^ 44), lim G 11 [.isl 0 1 (iV l)] [] = some (if inD l = true ∧ l ≠ [] then .tup [.xsl 0 1 (iV (uptoD l 96)), .int .i64 0] else .tup [.xsl 0 1 [], .int .i64 31], []))
    (hS : HSame G) (l : List Int) : lim G 3 [.isl 0 1 (iV l)] [] = some (.bool true, []) := by
  cases b1 : decide (200 < (l.length : Int))
  case true => exact lim_fun hG (h := runV (And.intro b1 (iV_len l)) trivial trivial)
  have k1 : l.length ≤ 200 := by simp at b1; omega
  have t1 := hD l (by omega)
  have t2 := hR l (by omega)
  have t3 := hS l (by omega)
  have hcap : (0 + (iV l).length) * 8 ≤ 140737488355328 := by rw [iV_len]; omega
  have hcap2 : (iV l).length * 8 ≤ 140737488355328 := by rw [iV_len]; omega
  rw [doorsV_eq] at t1
  by_cases h : inD l = true ∧ l ≠ []
  · rw [if_pos h] at t1 t2
    have hul : (uptoD l 96).length ≤ 96 := by
      unfold uptoD
      rw [List.length_map]
      exact Nat.le_trans (List.length_filter_le _ _) (by simp)
    obtain ⟨up, hup⟩ : ∃ up, up = uptoD l 96 := ⟨_, rfl⟩
    rw [← hup] at t1 t2 hul
    have t4 := hS up (by omega)
    have ha := apartI up 0
    exact lim_fun hG (h := runV (And.intro b1 (And.intro (iV_len l) ha)) (And.intro hcap hcap2) trivial)
  · rw [if_neg h] at t1 t2
    have t4 : lim G 12 [.isl 0 1 [], .isl 0 1 []] [] = some (.bool true, []) := hS [] (by decide)
    exact lim_fun hG (h := runV (And.intro b1 (iV_len l)) (And.intro hcap hcap2) trivial)
end
end P1
end Go.Vq
namespace Go.Vq
namespace P1
open Go
set_option maxRecDepth 1000000
set_option maxHeartbeats 8000000
abbrev b5 : VCode := .seq (.region [⟨some 4, .assign (.val (.bool false)), none, 0⟩] false) (.seq (.seq (.region [⟨some 17, .call true 9 0 [], none, 0⟩, ⟨some 18, .un (.not) (.tmp 17), none, 1⟩] false) (.cond (.tmp 18) (.seq (.region [⟨some 4, .assign (.val (.bool false)), none, 0⟩] false) (.ret)) (.skip))) (.seq (.region [⟨some 20, .move (.tmp 0), none, 0⟩, ⟨some 21, .call true 10 0 [(.tmp 20)], none, 1⟩, ⟨some 19, .move (.tmp 21), none, 3⟩, ⟨some 22, .extract (.tmp 19) 0, none, 7⟩, ⟨some 23, .extract (.tmp 19) 1, none, 7⟩, ⟨some 5, .assign (.tmp 22), none, 15⟩, ⟨some 6, .assign (.tmp 23), none, 63⟩] false) (.seq (.seq (.region [⟨some 24, .move (.tmp 6), none, 0⟩, ⟨some 25, .eq true (.num) (.tmp 24) (.val (.int .i64 0)), none, 1⟩, ⟨some 26, .move (.tmp 25), none, 3⟩, ⟨some 27, .move (.tmp 0), some (26, false), 7⟩, ⟨some 28, .len (.slc 1) (.tmp 27), some (26, false), 15⟩, ⟨some 29, .bin (.gtr) (.tmp 28) (.val (.int .i64 200)), some (26, false), 31⟩, ⟨some 30, .pick (.tmp 26) (.val (.bool true)) (.tmp 29), none, 63⟩, ⟨some 31, .move (.tmp 30), none, 127⟩, ⟨some 32, .move (.tmp 1), some (31, false), 255⟩, ⟨some 33, .bin (.lss) (.tmp 32) (.val (.int .i64 0)), some (31, false), 511⟩, ⟨some 34, .pick (.tmp 31) (.val (.bool true)) (.tmp 33), none, 1023⟩, ⟨some 35, .move (.tmp 34), none, 2047⟩, ⟨some 36, .move (.tmp 1), some (35, false), 4095⟩, ⟨some 37, .bin (.gtr) (.tmp 36) (.val (.int .i64 549755813888)), some (35, false), 8191⟩, ⟨some 38, .pick (.tmp 35) (.val (.bool true)) (.tmp 37), none, 16383⟩] false) (.cond (.tmp 38) (.seq (.region [⟨some 4, .assign (.val (.bool true)), none, 0⟩] false) (.ret)) (.skip))) (.seq (.region [⟨some 40, .move (.tmp 5), none, 0⟩, ⟨some 41, .move (.tmp 1), none, 0⟩, ⟨some 42, .call true 13 0 [(.tmp 40), (.tmp 41)], none, 3⟩, ⟨some 39, .move (.tmp 42), none, 7⟩, ⟨some 43, .extract (.tmp 39) 0, none, 15⟩, ⟨some 44, .extract (.tmp 39) 1, none, 15⟩, ⟨some 7, .assign (.tmp 43), none, 31⟩, ⟨some 8, .assign (.tmp 44), none, 127⟩] false) (.seq (.region [⟨some 46, .move (.tmp 5), none, 0⟩, ⟨some 47, .move (.tmp 1), none, 0⟩, ⟨some 48, .bin (.add) (.tmp 47) (.val (.int .i64 96)), none, 2⟩, ⟨some 49, .call true 13 0 [(.tmp 46), (.tmp 48)], none, 7⟩, ⟨some 45, .move (.tmp 49), none, 15⟩, ⟨some 50, .extract (.tmp 45) 0, none, 31⟩, ⟨some 51, .extract (.tmp 45) 1, none, 31⟩, ⟨some 9, .assign (.tmp 50), none, 63⟩, ⟨some 10, .assign (.tmp 51), none, 255⟩] false) (.seq (.region [⟨some 53, .move (.tmp 1), none, 0⟩, ⟨some 54, .call true 16 0 [(.tmp 53)], none, 1⟩, ⟨some 52, .move (.tmp 54), none, 3⟩, ⟨some 55, .extract (.tmp 52) 0, none, 7⟩, ⟨some 56, .extract (.tmp 52) 1, none, 7⟩, ⟨some 11, .assign (.tmp 55), none, 15⟩, ⟨some 12, .assign (.tmp 56), none, 63⟩] false) (.seq (.region [⟨some 58, .move (.tmp 11), none, 0⟩, ⟨some 59, .call true 15 0 [(.tmp 58)], none, 1⟩, ⟨some 57, .move (.tmp 59), none, 3⟩, ⟨some 60, .extract (.tmp 57) 0, none, 7⟩, ⟨some 61, .extract (.tmp 57) 1, none, 7⟩, ⟨some 13, .assign (.tmp 60), none, 15⟩, ⟨some 14, .assign (.tmp 61), none, 63⟩] false) (.seq (.region [⟨some 63, .move (.tmp 1), none, 0⟩, ⟨some 64, .call true 15 0 [(.tmp 63)], none, 1⟩, ⟨some 62, .move (.tmp 64), none, 3⟩, ⟨some 65, .extract (.tmp 62) 0, none, 7⟩, ⟨some 66, .extract (.tmp 62) 1, none, 7⟩, ⟨some 15, .assign (.tmp 65), none, 15⟩, ⟨some 16, .assign (.tmp 66), none, 63⟩] false) (.seq (.region [⟨some 67, .move (.tmp 8), none, 0⟩, ⟨some 68, .eq false (.num) (.tmp 67) (.val (.int .i64 0)), none, 1⟩, ⟨some 69, .move (.tmp 68), none, 3⟩, ⟨some 70, .move (.tmp 10), some (69, true), 7⟩, ⟨some 71, .eq false (.num) (.tmp 70) (.val (.int .i64 0)), some (69, true), 15⟩, ⟨some 72, .pick (.tmp 69) (.tmp 71) (.val (.bool false)), none, 31⟩, ⟨some 73, .move (.tmp 72), none, 63⟩, ⟨some 74, .move (.tmp 12), some (73, true), 127⟩, ⟨some 75, .eq false (.num) (.tmp 74) (.val (.int .i64 0)), some (73, true), 255⟩, ⟨some 76, .pick (.tmp 73) (.tmp 75) (.val (.bool false)), none, 511⟩, ⟨some 77, .move (.tmp 76), none, 1023⟩, ⟨some 78, .move (.tmp 9), some (77, true), 2047⟩, ⟨some 79, .move (.tmp 7), some (77, true), 2047⟩, ⟨some 80, .bin (.add) (.tmp 79) (.val (.int .i64 96)), some (77, true), 6143⟩, ⟨some 81, .eq false (.num) (.tmp 78) (.tmp 80), some (77, true), 16383⟩, ⟨some 82, .pick (.tmp 77) (.tmp 81) (.val (.bool false)), none, 32767⟩, ⟨some 83, .move (.tmp 82), none, 65535⟩, ⟨some 84, .move (.tmp 14), some (83, true), 131071⟩, ⟨some 85, .eq false (.num) (.tmp 84) (.val (.int .i64 0)), some (83, true), 262143⟩, ⟨some 86, .pick (.tmp 83) (.tmp 85) (.val (.bool false)), none, 524287⟩, ⟨some 87, .move (.tmp 86), none, 1048575⟩, ⟨some 88, .move (.tmp 13), some (87, true), 2097151⟩, ⟨some 89, .move (.tmp 15), some (87, true), 2097151⟩, ⟨some 90, .bin (.add) (.tmp 89) (.val (.int .i64 1)), some (87, true), 6291455⟩, ⟨some 91, .eq false (.num) (.tmp 88) (.tmp 90), some (87, true), 16777215⟩, ⟨some 92, .pick (.tmp 87) (.tmp 91) (.val (.bool false)), none, 33554431⟩, ⟨some 93, .move (.tmp 92), none, 67108863⟩, ⟨some 94, .move (.tmp 11), some (93, true), 134217727⟩, ⟨some 95, .move (.tmp 1), some (93, true), 134217727⟩, ⟨some 96, .bin (.gtr) (.tmp 94) (.tmp 95), some (93, true), 536870911⟩, ⟨some 97, .pick (.tmp 93) (.tmp 96) (.val (.bool false)), none, 1073741823⟩, ⟨some 98, .move (.tmp 97), none, 2147483647⟩, ⟨some 99, .move (.tmp 11), some (98, true), 4294967295⟩, ⟨some 100, .move (.tmp 1), some (98, true), 4294967295⟩, ⟨some 101, .bin (.add) (.tmp 100) (.val (.int .i64 96)), some (98, true), 12884901887⟩, ⟨some 102, .bin (.leq) (.tmp 99) (.tmp 101), some (98, true), 34359738367⟩, ⟨some 103, .pick (.tmp 98) (.tmp 102) (.val (.bool false)), none, 68719476735⟩, ⟨some 4, .assign (.tmp 103), none, 137438953471⟩] false) (.ret))))))))))
abbrev v5 : VFunc := { nparams := 2, ntmps := 104, nsites := 0, results := [.tmp 4], body := b5 }
abbrev b7 : VCode := .seq (.region [⟨some 3, .box 0 3 (.tmp 1), none, 0⟩, ⟨some 4, .assign (.val (.bool false)), none, 0⟩] false) (.seq (.seq (.region [⟨some 19, .call true 9 1 [], none, 0⟩, ⟨some 20, .un (.not) (.tmp 19), none, 1⟩] false) (.cond (.tmp 20) (.seq (.region [⟨some 4, .assign (.val (.bool false)), none, 0⟩] false) (.ret)) (.skip))) (.seq (.region [⟨some 22, .move (.tmp 0), none, 0⟩, ⟨some 23, .call true 10 1 [(.tmp 22)], none, 1⟩, ⟨some 21, .move (.tmp 23), none, 3⟩, ⟨some 24, .extract (.tmp 21) 0, none, 7⟩, ⟨some 25, .extract (.tmp 21) 1, none, 7⟩, ⟨some 5, .assign (.tmp 24), none, 15⟩, ⟨some 6, .assign (.tmp 25), none, 63⟩] false) (.seq (.seq (.region [⟨some 26, .move (.tmp 6), none, 0⟩, ⟨some 27, .eq true (.num) (.tmp 26) (.val (.int .i64 0)), none, 1⟩, ⟨some 28, .move (.tmp 27), none, 3⟩, ⟨some 29, .move (.tmp 0), some (28, false), 7⟩, ⟨some 30, .len (.slc 1) (.tmp 29), some (28, false), 15⟩, ⟨some 31, .bin (.gtr) (.tmp 30) (.val (.int .i64 200)), some (28, false), 31⟩, ⟨some 32, .pick (.tmp 28) (.val (.bool true)) (.tmp 31), none, 63⟩, ⟨some 33, .move (.tmp 32), none, 127⟩, ⟨some 34, .indexAddr (some 3) 1 (.tmp 3) (.val (.int .i64 0)), some (33, false), 255⟩, ⟨some 35, .load false 1 (.tmp 34), some (33, false), 511⟩, ⟨some 36, .indexAddr (some 3) 1 (.tmp 3) (.val (.int .i64 1)), some (33, false), 255⟩, ⟨some 37, .load false 1 (.tmp 36), some (33, false), 1279⟩, ⟨some 38, .bin (.gtr) (.tmp 35) (.tmp 37), some (33, false), 4095⟩, ⟨some 39, .pick (.tmp 33) (.val (.bool true)) (.tmp 38), none, 8191⟩, ⟨some 40, .move (.tmp 39), none, 16383⟩, ⟨some 41, .indexAddr (some 3) 1 (.tmp 3) (.val (.int .i64 1)), some (40, false), 32767⟩, ⟨some 42, .load false 1 (.tmp 41), some (40, false), 65535⟩, ⟨some 43, .indexAddr (some 3) 1 (.tmp 3) (.val (.int .i64 2)), some (40, false), 32767⟩, ⟨some 44, .load false 1 (.tmp 43), some (40, false), 163839⟩, ⟨some 45, .bin (.gtr) (.tmp 42) (.tmp 44), some (40, false), 524287⟩, ⟨some 46, .pick (.tmp 40) (.val (.bool true)) (.tmp 45), none, 1048575⟩, ⟨some 47, .move (.tmp 46), none, 2097151⟩, ⟨some 48, .indexAddr (some 3) 1 (.tmp 3) (.val (.int .i64 0)), some (47, false), 4194303⟩, ⟨some 49, .load false 1 (.tmp 48), some (47, false), 8388607⟩, ⟨some 50, .bin (.lss) (.tmp 49) (.val (.int .i64 0)), some (47, false), 16777215⟩, ⟨some 51, .pick (.tmp 47) (.val (.bool true)) (.tmp 50), none, 33554431⟩, ⟨some 52, .move (.tmp 51), none, 67108863⟩, ⟨some 53, .indexAddr (some 3) 1 (.tmp 3) (.val (.int .i64 2)), some (52, false), 134217727⟩, ⟨some 54, .load false 1 (.tmp 53), some (52, false), 268435455⟩, ⟨some 55, .bin (.gtr) (.tmp 54) (.val (.int .i64 549755813888)), some (52, false), 536870911⟩, ⟨some 56, .pick (.tmp 52) (.val (.bool true)) (.tmp 55), none, 1073741823⟩] false) (.cond (.tmp 56) (.seq (.region [⟨some 4, .assign (.val (.bool true)), none, 0⟩] false) (.ret)) (.skip))) (.seq (.region [⟨some 58, .move (.tmp 5), none, 0⟩, ⟨some 59, .indexAddr (some 3) 1 (.tmp 3) (.val (.int .i64 0)), none, 0⟩, ⟨some 60, .load false 1 (.tmp 59), none, 2⟩, ⟨some 61, .indexAddr (some 3) 1 (.tmp 3) (.val (.int .i64 1)), none, 0⟩, ⟨some 62, .load false 1 (.tmp 61), none, 8⟩, ⟨some 63, .call true 19 1 [(.tmp 58), (.tmp 60), (.tmp 62)], none, 31⟩, ⟨some 57, .move (.tmp 63), none, 63⟩, ⟨some 64, .extract (.tmp 57) 0, none, 127⟩, ⟨some 65, .extract (.tmp 57) 1, none, 127⟩, ⟨some 7, .assign (.tmp 64), none, 255⟩, ⟨some 8, .assign (.tmp 65), none, 1023⟩] false) (.seq (.region [⟨some 67, .move (.tmp 5), none, 0⟩, ⟨some 68, .indexAddr (some 3) 1 (.tmp 3) (.val (.int .i64 1)), none, 0⟩, ⟨some 69, .load false 1 (.tmp 68), none, 2⟩, ⟨some 70, .indexAddr (some 3) 1 (.tmp 3) (.val (.int .i64 2)), none, 0⟩, ⟨some 71, .load false 1 (.tmp 70), none, 8⟩, ⟨some 72, .call true 19 1 [(.tmp 67), (.tmp 69), (.tmp 71)], none, 31⟩, ⟨some 66, .move (.tmp 72), none, 63⟩, ⟨some 73, .extract (.tmp 66) 0, none, 127⟩, ⟨some 74, .extract (.tmp 66) 1, none, 127⟩, ⟨some 9, .assign (.tmp 73), none, 255⟩, ⟨some 10, .assign (.tmp 74), none, 1023⟩] false) (.seq (.region [⟨some 76, .move (.tmp 5), none, 0⟩, ⟨some 77, .indexAddr (some 3) 1 (.tmp 3) (.val (.int .i64 0)), none, 0⟩, ⟨some 78, .load false 1 (.tmp 77), none, 2⟩, ⟨some 79, .indexAddr (some 3) 1 (.tmp 3) (.val (.int .i64 2)), none, 0⟩, ⟨some 80, .load false 1 (.tmp 79), none, 8⟩, ⟨some 81, .call true 19 1 [(.tmp 76), (.tmp 78), (.tmp 80)], none, 31⟩, ⟨some 75, .move (.tmp 81), none, 63⟩, ⟨some 82, .extract (.tmp 75) 0, none, 127⟩, ⟨some 83, .extract (.tmp 75) 1, none, 127⟩, ⟨some 11, .assign (.tmp 82), none, 255⟩, ⟨some 12, .assign (.tmp 83), none, 1023⟩] false) (.seq (.region [⟨some 85, .move (.tmp 5), none, 0⟩, ⟨some 86, .indexAddr (some 3) 1 (.tmp 3) (.val (.int .i64 0)), none, 0⟩, ⟨some 87, .load false 1 (.tmp 86), none, 2⟩, ⟨some 88, .call true 13 1 [(.tmp 85), (.tmp 87)], none, 7⟩, ⟨some 84, .move (.tmp 88), none, 15⟩, ⟨some 89, .extract (.tmp 84) 0, none, 31⟩, ⟨some 90, .extract (.tmp 84) 1, none, 31⟩, ⟨some 13, .assign (.tmp 89), none, 63⟩, ⟨some 14, .assign (.tmp 90), none, 255⟩] false) (.seq (.region [⟨some 92, .move (.tmp 5), none, 0⟩, ⟨some 93, .indexAddr (some 3) 1 (.tmp 3) (.val (.int .i64 0)), none, 0⟩, ⟨some 94, .load false 1 (.tmp 93), none, 2⟩, ⟨some 95, .move (.tmp 13), none, 0⟩, ⟨some 96, .call true 19 1 [(.tmp 92), (.tmp 94), (.tmp 95)], none, 15⟩, ⟨some 91, .move (.tmp 96), none, 31⟩, ⟨some 97, .extract (.tmp 91) 0, none, 63⟩, ⟨some 98, .extract (.tmp 91) 1, none, 63⟩, ⟨some 15, .assign (.tmp 97), none, 127⟩, ⟨some 16, .assign (.tmp 98), none, 511⟩] false) (.seq (.region [⟨some 100, .move (.tmp 5), none, 0⟩, ⟨some 101, .indexAddr (some 3) 1 (.tmp 3) (.val (.int .i64 0)), none, 0⟩, ⟨some 102, .load false 1 (.tmp 101), none, 2⟩, ⟨some 103, .indexAddr (some 3) 1 (.tmp 3) (.val (.int .i64 0)), none, 0⟩, ⟨some 104, .load false 1 (.tmp 103), none, 8⟩, ⟨some 105, .bin (.add) (.tmp 104) (.val (.int .i64 96)), none, 24⟩, ⟨some 106, .call true 19 1 [(.tmp 100), (.tmp 102), (.tmp 105)], none, 63⟩, ⟨some 99, .move (.tmp 106), none, 127⟩, ⟨some 107, .extract (.tmp 99) 0, none, 255⟩, ⟨some 108, .extract (.tmp 99) 1, none, 255⟩, ⟨some 17, .assign (.tmp 107), none, 511⟩, ⟨some 18, .assign (.tmp 108), none, 2047⟩] false) (.seq (.region [⟨some 109, .move (.tmp 8), none, 0⟩, ⟨some 110, .eq false (.num) (.tmp 109) (.val (.int .i64 0)), none, 1⟩, ⟨some 111, .move (.tmp 110), none, 3⟩, ⟨some 112, .move (.tmp 10), some (111, true), 7⟩, ⟨some 113, .eq false (.num) (.tmp 112) (.val (.int .i64 0)), some (111, true), 15⟩, ⟨some 114, .pick (.tmp 111) (.tmp 113) (.val (.bool false)), none, 31⟩, ⟨some 115, .move (.tmp 114), none, 63⟩, ⟨some 116, .move (.tmp 12), some (115, true), 127⟩, ⟨some 117, .eq false (.num) (.tmp 116) (.val (.int .i64 0)), some (115, true), 255⟩, ⟨some 118, .pick (.tmp 115) (.tmp 117) (.val (.bool false)), none, 511⟩, ⟨some 119, .move (.tmp 118), none, 1023⟩, ⟨some 120, .move (.tmp 14), some (119, true), 2047⟩, ⟨some 121, .eq false (.num) (.tmp 120) (.val (.int .i64 0)), some (119, true), 4095⟩, ⟨some 122, .pick (.tmp 119) (.tmp 121) (.val (.bool false)), none, 8191⟩, ⟨some 123, .move (.tmp 122), none, 16383⟩, ⟨some 124, .move (.tmp 16), some (123, true), 32767⟩, ⟨some 125, .eq false (.num) (.tmp 124) (.val (.int .i64 0)), some (123, true), 65535⟩, ⟨some 126, .pick (.tmp 123) (.tmp 125) (.val (.bool false)), none, 131071⟩, ⟨some 127, .move (.tmp 126), none, 262143⟩, ⟨some 128, .move (.tmp 18), some (127, true), 524287⟩, ⟨some 129, .eq false (.num) (.tmp 128) (.val (.int .i64 0)), some (127, true), 1048575⟩, ⟨some 130, .pick (.tmp 127) (.tmp 129) (.val (.bool false)), none, 2097151⟩, ⟨some 131, .move (.tmp 130), none, 4194303⟩, ⟨some 132, .move (.tmp 7), some (131, true), 8388607⟩, ⟨some 133, .move (.tmp 9), some (131, true), 8388607⟩, ⟨some 134, .bin (.add) (.tmp 132) (.tmp 133), some (131, true), 33554431⟩, ⟨some 135, .move (.tmp 11), some (131, true), 8388607⟩, ⟨some 136, .eq false (.num) (.tmp 134) (.tmp 135), some (131, true), 134217727⟩, ⟨some 137, .pick (.tmp 131) (.tmp 136) (.val (.bool false)), none, 268435455⟩, ⟨some 138, .move (.tmp 137), none, 536870911⟩, ⟨some 139, .move (.tmp 15), some (138, true), 1073741823⟩, ⟨some 140, .eq false (.num) (.tmp 139) (.val (.int .i64 1)), some (138, true), 2147483647⟩, ⟨some 141, .pick (.tmp 138) (.tmp 140) (.val (.bool false)), none, 4294967295⟩, ⟨some 142, .move (.tmp 141), none, 8589934591⟩, ⟨some 143, .move (.tmp 17), some (142, true), 17179869183⟩, ⟨some 144, .move (.tmp 5), some (142, true), 17179869183⟩, ⟨some 145, .len (.slc 1) (.tmp 144), some (142, true), 51539607551⟩, ⟨some 146, .eq false (.num) (.tmp 143) (.tmp 145), some (142, true), 137438953471⟩, ⟨some 147, .pick (.tmp 142) (.tmp 146) (.val (.bool false)), none, 274877906943⟩, ⟨some 148, .move (.tmp 147), none, 549755813887⟩, ⟨some 149, .move (.tmp 13), some (148, true), 1099511627775⟩, ⟨some 150, .indexAddr (some 3) 1 (.tmp 3) (.val (.int .i64 0)), some (148, true), 1099511627775⟩, ⟨some 151, .load false 1 (.tmp 150), some (148, true), 3298534883327⟩, ⟨some 152, .bin (.gtr) (.tmp 149) (.tmp 151), some (148, true), 8796093022207⟩, ⟨some 153, .pick (.tmp 148) (.tmp 152) (.val (.bool false)), none, 17592186044415⟩, ⟨some 154, .move (.tmp 153), none, 35184372088831⟩, ⟨some 155, .move (.tmp 13), some (154, true), 70368744177663⟩, ⟨some 156, .indexAddr (some 3) 1 (.tmp 3) (.val (.int .i64 0)), some (154, true), 70368744177663⟩, ⟨some 157, .load false 1 (.tmp 156), some (154, true), 211106232532991⟩, ⟨some 158, .bin (.add) (.tmp 157) (.val (.int .i64 96)), some (154, true), 492581209243647⟩, ⟨some 159, .bin (.leq) (.tmp 155) (.tmp 158), some (154, true), 1125899906842623⟩, ⟨some 160, .pick (.tmp 154) (.tmp 159) (.val (.bool false)), none, 2251799813685247⟩, ⟨some 4, .assign (.tmp 160), none, 4503599627370495⟩] false) (.ret)))))))))))
abbrev v7 : VFunc := { nparams := 2, ntmps := 161, nsites := 1, results := [.tmp 4], body := b7 }
theorem nextN_day (l : List Int) (t : Int) : nextN l (t + 96) = nextN l t + 96 := by
  unfold nextN
  rw [show (t + 96) % 96 = t % 96 by omega, show (t + 96) / 96 = t / 96 + 1 by omega]
  split <;> omega
theorem before_next {l : List Int} (h : Fit l) {t : Int} (ht : 0 ≤ t) : beforeN l (nextN l t) = beforeN l t + 1 := by
  obtain ⟨h1, h2, h3, h4⟩ := next_ok h ht
  have key : ∀ n : Nat, t + n < nextN l t → beforeN l (t + n) = beforeN l t := by
    intro n
    induction n with
    | zero => intro _; simp
    | succ n ih =>
      intro hn
      have e : t + ((n + 1 : Nat) : Int) = t + n + 1 := by omega
      rw [e] at hn ⊢
      rw [before_step h (by omega), ih (by omega), h4 (t + n + 1) (by omega) (by omega)]
      simp
  obtain ⟨n, hn⟩ : ∃ n : Nat, nextN l t = t + n + 1 := ⟨(nextN l t - t - 1).toNat, by omega⟩
  rw [hn] at h3 ⊢
  rw [before_step h (by omega), key n (by omega), h3]
  simp
section
variable (G : VProg)
theorem dayWeeks (hG : G 5 = some (.code v5)) (hA : lim G 9 [] [] = some (.bool true, [])) (hD : HDrs G) (hN : HNext G) (hE : HEnd G) (hO : HOf G)
    (l : List Int) (hl : l.length < 2 ^ 44) (t : Int) : lim G 5 [.isl 0 1 (iV l), .int .i64 t] [] = some (.bool true, []) := by
  have t1 := hD l hl
  have hcl := cpt_len l
  unfold doorsV at t1
  obtain ⟨cs, hcs⟩ : ∃ cs, cs = cpt l := ⟨_, rfl⟩
  rw [← hcs] at t1 hcl
  cases hf : fitsD cs <;> rw [hf] at t1
  · simp only [Bool.false_eq_true, if_false] at t1
    exact lim_fun hG (h := runV trivial trivial trivial)
  simp only [if_true] at t1
  have ha := apartI cs 0
  cases b1 : decide (200 < (l.length : Int))
  case true => exact lim_fun hG (h := runV (And.intro b1 (And.intro (iV_len l) ha)) trivial trivial)
  cases b2 : decide (t < 0)
  case true => exact lim_fun hG (h := runV (And.intro b1 (And.intro b2 (And.intro (iV_len l) ha))) trivial trivial)
  cases b3 : decide (549755813888 < t)
  case true => exact lim_fun hG (h := runV (And.intro b1 (And.intro b2 (And.intro b3 (And.intro (iV_len l) ha)))) trivial trivial)
  have ht : 0 ≤ t ∧ t ≤ 549755813888 := by simp at b2 b3; omega
  have hF := fit_of hf
  obtain ⟨n1, n2, _, _⟩ := next_ok hF ht.1
  have r1 : rightT t = true := by simp [rightT]; omega
  have r2 : rightT (t + 96) = true := by simp [rightT]; omega
  have nd := nextN_day cs t
  have t2 := hN cs (by omega) t
  have t3 := hN cs (by omega) (t + 96)
  unfold nextV at t2 t3
  rw [if_pos ⟨hf, r1⟩] at t2
  rw [if_pos ⟨hf, r2⟩, nd] at t3
  obtain ⟨nx, hnx⟩ : ∃ nx, nx = nextN cs t := ⟨_, rfl⟩
  rw [← hnx] at t2 t3 n1 n2
  have r3 : rightT nx = true := by simp [rightT]; omega
  have r4 : rightT (nx + 96) = true := by simp [rightT]; omega
  unfold toldV at t2 t3
  rw [r3] at t2
  rw [r4] at t3
  have t4 := hE t
  unfold endV toldV at t4
  obtain ⟨ed, hed⟩ : ∃ ed, ed = t - t % 96 + 96 := ⟨_, rfl⟩
  have r5 : rightT ed = true := by simp [rightT]; omega
  rw [if_pos r1, ← hed, r5] at t4
  have t5 := hO ed
  have t6 := hO t
  unfold ofT at t5 t6
  rw [if_pos r5, show ed / 96 = t / 96 + 1 by omega, show ed % 96 = 0 by omega] at t5
  rw [if_pos r1] at t6
  simp only [if_true] at t2 t3 t4
  obtain ⟨c, hc⟩ : ∃ c, c = t / 96 := ⟨_, rfl⟩
  rw [← hc] at t5 t6
  have w1 : IntKind.i64.wrap (t + 96) = t + 96 := wrapi64 _ (by omega) (by omega)
  have w2 : IntKind.i64.wrap (nx + 96) = nx + 96 := wrapi64 _ (by omega) (by omega)
  have w3 : IntKind.i64.wrap (c + 1) = c + 1 := wrapi64 _ (by omega) (by omega)
  have c1 : decide (t < ed) = true := by simp; omega
  have c2 : decide (ed ≤ t + 96) = true := by simp; omega
  clear hD hN hE hO hF
  exact lim_fun hG (h := runV (And.intro b1 (And.intro b2 (And.intro b3 (And.intro w1 (And.intro w2 (And.intro w3 (And.intro c1 (And.intro c2 (And.intro (iV_len l) ha))))))))) trivial trivial)
theorem daySteps (hG : G 7 = some (.code v7)) (hA : lim G 9 [] [] = some (.bool true, [])) (hD : HDrs G) (hN : HNext G) (hP : HPassed G)
    (l : List Int) (hl : l.length < 2 ^ 44) (x y w : Int) : lim G 7 [.isl 0 1 (iV l), .agg [.int .i64 x, .int .i64 y, .int .i64 w]] [] = some (.bool true, []) := by
  have t1 := hD l hl
  have hcl := cpt_len l
  unfold doorsV at t1
  obtain ⟨cs, hcs⟩ : ∃ cs, cs = cpt l := ⟨_, rfl⟩
  rw [← hcs] at t1 hcl
  cases hf : fitsD cs <;> rw [hf] at t1
  · simp only [Bool.false_eq_true, if_false] at t1
    exact lim_fun hG (h := runV trivial trivial trivial)
  simp only [if_true] at t1
  have ha := apartI cs 0
  cases b1 : decide (200 < (l.length : Int))
  case true => exact lim_fun hG (h := runV (And.intro b1 (And.intro (iV_len l) ha)) trivial trivial)
  cases b2 : decide (y < x)
  case true => exact lim_fun hG (h := runV (And.intro b1 (And.intro b2 (And.intro (iV_len l) ha))) trivial trivial)
  cases b3 : decide (w < y)
  case true => exact lim_fun hG (h := runV (And.intro b1 (And.intro b2 (And.intro b3 (And.intro (iV_len l) ha)))) trivial trivial)
  cases b4 : decide (x < 0)
  case true => exact lim_fun hG (h := runV (And.intro b1 (And.intro b2 (And.intro b3 (And.intro b4 (And.intro (iV_len l) ha))))) trivial trivial)
  cases b5 : decide (549755813888 < w)
  case true => exact lim_fun hG (h := runV (And.intro b1 (And.intro b2 (And.intro b3 (And.intro b4 (And.intro b5 (And.intro (iV_len l) ha)))))) trivial trivial)
  have ht : 0 ≤ x ∧ x ≤ y ∧ y ≤ w ∧ w ≤ 549755813888 := by simp at b2 b3 b4 b5; omega
  have hF := fit_of hf
  obtain ⟨n1, n2, _, _⟩ := next_ok hF ht.1
  have r1 : rightT x = true := by simp [rightT]; omega
  have r2 : rightT y = true := by simp [rightT]; omega
  have r3 : rightT w = true := by simp [rightT]; omega
  have r4 : rightT (x + 96) = true := by simp [rightT]; omega
  have t2 := hP cs (by omega) x y
  have t3 := hP cs (by omega) y w
  have t4 := hP cs (by omega) x w
  have t5 := hN cs (by omega) x
  have t6 := hP cs (by omega) x (nextN cs x)
  have t7 := hP cs (by omega) x (x + 96)
  have d1 := before_bd hF r1
  have d2 := before_bd hF r2
  have d3 := before_bd hF r3
  have nb := before_next hF ht.1
  have bd := before_day cs x
  unfold nextV at t5
  rw [if_pos ⟨hf, r1⟩] at t5
  obtain ⟨nx, hnx⟩ : ∃ nx, nx = nextN cs x := ⟨_, rfl⟩
  rw [← hnx] at t5 t6 n1 n2 nb
  have r5 : rightT nx = true := by simp [rightT]; omega
  unfold passedV at t2 t3 t4 t6 t7
  rw [if_pos ⟨hf, r1, r2, by omega⟩] at t2
  rw [if_pos ⟨hf, r2, r3, by omega⟩] at t3
  rw [if_pos ⟨hf, r1, r3, by omega⟩] at t4
  rw [if_pos ⟨hf, r1, r5, by omega⟩, show beforeN cs nx - beforeN cs x = 1 by omega] at t6
  rw [if_pos ⟨hf, r1, r4, by omega⟩, show beforeN cs (x + 96) - beforeN cs x = (cs.length : Int) by omega] at t7
  unfold toldV at t5
  rw [r5] at t5
  simp only [if_true] at t5
  have w1 : IntKind.i64.wrap (x + 96) = x + 96 := wrapi64 _ (by omega) (by omega)
  have w2 : IntKind.i64.wrap (beforeN cs y - beforeN cs x + (beforeN cs w - beforeN cs y)) = beforeN cs w - beforeN cs x := by rw [wrapi64 _ (by omega) (by omega)]; omega
  obtain ⟨q1, hq1⟩ : ∃ q, q = beforeN cs y - beforeN cs x := ⟨_, rfl⟩
  obtain ⟨q2, hq2⟩ : ∃ q, q = beforeN cs w - beforeN cs y := ⟨_, rfl⟩
  obtain ⟨q3, hq3⟩ : ∃ q, q = beforeN cs w - beforeN cs x := ⟨_, rfl⟩
  rw [← hq1] at t2 w2
  rw [← hq2] at t3 w2
  rw [← hq3] at t4 w2
  have c1 : decide (x < nx) = true := by simp; omega
  have c2 : decide (nx ≤ x + 96) = true := by simp; omega
  clear hD hN hP hF
  exact lim_fun hG (h := runV (And.intro b1 (And.intro b2 (And.intro b3 (And.intro b4 (And.intro b5 (And.intro w1 (And.intro w2 (And.intro c1 (And.intro c2 (And.intro (iV_len l) (And.intro (iV_len cs) ha))))))))))) trivial trivial)
end
end P1
end Go.Vq
