/- A machine of values and its tie to the model, and runs of it: part 14 of 15 (no law of Go is stated here). -/
import Derived.Test.YtmhpkajjomgbhaaF13
set_option linter.unusedVariables false
set_option linter.unusedSimpArgs false
set_option linter.unusedSectionVars false
namespace Go.Vq
namespace P1
open Go
set_option maxRecDepth 1000000
set_option maxHeartbeats 8000000
abbrev b6 : VCode := .seq (.region [⟨some 6, .assign (.val (.bool false)), none, 0⟩] false) (.seq (.seq (.region [⟨some 11, .call true 9 0 [], none, 0⟩, ⟨some 12, .un (.not) (.tmp 11), none, 1⟩] false) (.cond (.tmp 12) (.seq (.region [⟨some 6, .assign (.val (.bool false)), none, 0⟩] false) (.ret)) (.skip))) (.seq (.seq (.region [⟨some 13, .move (.tmp 0), none, 0⟩, ⟨some 14, .len (.slc 1) (.tmp 13), none, 1⟩, ⟨some 15, .bin (.gtr) (.tmp 14) (.val (.int .i64 200)), none, 3⟩] false) (.cond (.tmp 15) (.seq (.region [⟨some 6, .assign (.val (.bool true)), none, 0⟩] false) (.ret)) (.skip))) (.seq (.region [⟨some 17, .move (.tmp 0), none, 0⟩, ⟨some 18, .move (.tmp 1), none, 0⟩, ⟨some 19, .move (.tmp 2), none, 0⟩, ⟨some 20, .call true 19 0 [(.tmp 17), (.tmp 18), (.tmp 19)], none, 7⟩, ⟨some 16, .move (.tmp 20), none, 15⟩, ⟨some 21, .extract (.tmp 16) 0, none, 31⟩, ⟨some 22, .extract (.tmp 16) 1, none, 31⟩, ⟨some 7, .assign (.tmp 21), none, 63⟩, ⟨some 8, .assign (.tmp 22), none, 255⟩] false) (.seq (.seq (.region [⟨some 23, .move (.tmp 0), none, 0⟩, ⟨some 24, .call true 20 0 [(.tmp 23)], none, 1⟩, ⟨some 25, .un (.not) (.tmp 24), none, 3⟩, ⟨some 26, .move (.tmp 25), none, 7⟩, ⟨some 27, .move (.tmp 1), some (26, false), 15⟩, ⟨some 28, .call true 18 0 [(.tmp 27)], some (26, false), 31⟩, ⟨some 29, .un (.not) (.tmp 28), some (26, false), 63⟩, ⟨some 30, .pick (.tmp 26) (.val (.bool true)) (.tmp 29), none, 127⟩, ⟨some 31, .move (.tmp 30), none, 255⟩, ⟨some 32, .move (.tmp 2), some (31, false), 511⟩, ⟨some 33, .call true 18 0 [(.tmp 32)], some (31, false), 1023⟩, ⟨some 34, .un (.not) (.tmp 33), some (31, false), 2047⟩, ⟨some 35, .pick (.tmp 31) (.val (.bool true)) (.tmp 34), none, 4095⟩, ⟨some 36, .move (.tmp 35), none, 8191⟩, ⟨some 37, .move (.tmp 1), some (36, false), 16383⟩, ⟨some 38, .move (.tmp 2), some (36, false), 16383⟩, ⟨some 39, .bin (.gtr) (.tmp 37) (.tmp 38), some (36, false), 65535⟩, ⟨some 40, .pick (.tmp 36) (.val (.bool true)) (.tmp 39), none, 131071⟩] false) (.cond (.tmp 40) (.seq (.region [⟨some 41, .move (.tmp 7), none, 0⟩, ⟨some 42, .eq false (.num) (.tmp 41) (.val (.int .i64 0)), none, 1⟩, ⟨some 43, .move (.tmp 42), none, 3⟩, ⟨some 44, .move (.tmp 8), some (43, true), 7⟩, ⟨some 45, .eq false (.num) (.tmp 44) (.val (.int .i64 31)), some (43, true), 15⟩, ⟨some 46, .pick (.tmp 43) (.tmp 45) (.val (.bool false)), none, 31⟩, ⟨some 6, .assign (.tmp 46), none, 63⟩] false) (.ret)) (.skip))) (.seq (.seq (.region [⟨some 47, .move (.tmp 2), none, 0⟩, ⟨some 48, .move (.tmp 1), none, 0⟩, ⟨some 49, .bin (.sub) (.tmp 47) (.tmp 48), none, 3⟩, ⟨some 50, .bin (.gtr) (.tmp 49) (.val (.int .i64 3000)), none, 7⟩] false) (.cond (.tmp 50) (.seq (.region [⟨some 51, .move (.tmp 8), none, 0⟩, ⟨some 52, .eq false (.num) (.tmp 51) (.val (.int .i64 0)), none, 1⟩, ⟨some 53, .move (.tmp 52), none, 3⟩, ⟨some 54, .move (.tmp 7), some (53, true), 7⟩, ⟨some 55, .move (.tmp 2), some (53, true), 7⟩, ⟨some 56, .move (.tmp 1), some (53, true), 7⟩, ⟨some 57, .bin (.sub) (.tmp 55) (.tmp 56), some (53, true), 55⟩, ⟨some 58, .bin (.quo) (.tmp 57) (.val (.int .i64 96)), some (53, true), 119⟩, ⟨some 59, .move (.tmp 0), some (53, true), 7⟩, ⟨some 60, .len (.slc 1) (.tmp 59), some (53, true), 263⟩, ⟨some 61, .bin (.mul) (.tmp 58) (.tmp 60), some (53, true), 1015⟩, ⟨some 62, .bin (.geq) (.tmp 54) (.tmp 61), some (53, true), 2047⟩, ⟨some 63, .pick (.tmp 53) (.tmp 62) (.val (.bool false)), none, 4095⟩, ⟨some 6, .assign (.tmp 63), none, 8191⟩] false) (.ret)) (.skip))) (.seq (.region [⟨some 9, .assign (.val (.int .i64 0)), none, 0⟩] false) (.seq (.seq (.region [⟨some 64, .move (.tmp 1), none, 0⟩, ⟨some 65, .bin (.add) (.tmp 64) (.val (.int .i64 1)), none, 1⟩, ⟨some 10, .assign (.tmp 65), none, 3⟩] false) (.block 0 (some [7, 8, 9]) (.loop (some [0, 2, 7, 8, 9, 10]) (.seq (.seq (.region [⟨some 66, .move (.tmp 10), none, 0⟩, ⟨some 67, .move (.tmp 2), none, 0⟩, ⟨some 68, .bin (.leq) (.tmp 66) (.tmp 67), none, 3⟩] false) (.cond (.tmp 68) (.skip) (.exit 0))) (.seq (.block 1 none (.seq (.region [⟨some 71, .move (.tmp 0), none, 0⟩, ⟨some 72, .move (.tmp 10), none, 0⟩, ⟨some 73, .call true 21 0 [(.tmp 71), (.tmp 72)], none, 3⟩] false) (.cond (.tmp 73) (.region [⟨some 74, .move (.tmp 9), none, 0⟩, ⟨some 75, .bin (.add) (.tmp 74) (.val (.int .i64 1)), none, 1⟩, ⟨some 9, .assign (.tmp 75), none, 3⟩] false) (.skip)))) (.region [⟨some 69, .move (.tmp 10), none, 0⟩, ⟨some 70, .bin (.add) (.tmp 69) (.val (.int .i64 1)), none, 1⟩, ⟨some 10, .assign (.tmp 70), none, 3⟩] false)))))) (.seq (.region [⟨some 76, .move (.tmp 8), none, 0⟩, ⟨some 77, .eq false (.num) (.tmp 76) (.val (.int .i64 0)), none, 1⟩, ⟨some 78, .move (.tmp 77), none, 3⟩, ⟨some 79, .move (.tmp 7), some (78, true), 7⟩, ⟨some 80, .move (.tmp 9), some (78, true), 7⟩, ⟨some 81, .eq false (.num) (.tmp 79) (.tmp 80), some (78, true), 31⟩, ⟨some 82, .pick (.tmp 78) (.tmp 81) (.val (.bool false)), none, 63⟩, ⟨some 6, .assign (.tmp 82), none, 127⟩] false) (.ret)))))))))
abbrev v6 : VFunc := { nparams := 3, ntmps := 83, nsites := 0, results := [.tmp 6], body := b6 }
def SPd (l : List Int) (b v : Int) (a : Int × Int) : St := ⟨(.isl 0 1 (iV l) :: .gone 0 :: .int .i64 b :: .gone 0 :: .gone 0 :: .gone 0 :: .gone 0 :: .int .i64 v :: .int .i64 0 :: .int .i64 a.2 :: .int .i64 a.1 :: .gone 0 :: .gone 0 :: .gone 0 :: .gone 0 :: .gone 0 :: .gone 0 :: .gone 0 :: .gone 0 :: .gone 0 :: .gone 0 :: .gone 0 :: .gone 0 :: .gone 0 :: .gone 0 :: .gone 0 :: .gone 0 :: .gone 0 :: .gone 0 :: .gone 0 :: .gone 0 :: .gone 0 :: .gone 0 :: .gone 0 :: .gone 0 :: .gone 0 :: .gone 0 :: .gone 0 :: .gone 0 :: .gone 0 :: .gone 0 :: .gone 0 :: .gone 0 :: .gone 0 :: .gone 0 :: .gone 0 :: .gone 0 :: .gone 0 :: .gone 0 :: .gone 0 :: .gone 0 :: .gone 0 :: .gone 0 :: .gone 0 :: .gone 0 :: .gone 0 :: .gone 0 :: .gone 0 :: .gone 0 :: .gone 0 :: .gone 0 :: .gone 0 :: .gone 0 :: .gone 0 :: .gone 0 :: .gone 0 :: .gone 0 :: .gone 0 :: .gone 0 :: .gone 0 :: .gone 0 :: .gone 0 :: .gone 0 :: .gone 0 :: .gone 0 :: .gone 0 :: .gone 0 :: .gone 0 :: .gone 0 :: .gone 0 :: .gone 0 :: .gone 0 :: .gone 0 :: []), []⟩
section
variable (G : VProg)
theorem dayPassed (hG : G 6 = some (.code v6)) (hA : lim G 9 [] [] = some (.bool true, []))
    (hP : ∀ (l : List Int) (_ : l.length < 2 ^ 44) (a b : Int), lim G 19 [.isl 0 1 (iV l), .int .i64 a, .int .i64 b] [] = some (passedV l a b, []))
    (hD : ∀ (l : List Int) (_ : l.length < 2 ^ 44), lim G 20 [.isl 0 1 (iV l)] [] = some (.bool (fitsD l), []))
    (hC : ∀ (l : List Int) (_ : l.length < 2 ^ 44) (t : Int) (_ : 0 ≤ t), lim G 21 [.isl 0 1 (iV l), .int .i64 t] [] = some (.bool (closesB l t), []))
    (hS : ∀ t : Int, lim G 18 [.int .i64 t] [] = some (.bool (rightT t), []))
    (l : List Int) (a b : Int) : lim G 6 [.isl 0 1 (iV l), .int .i64 a, .int .i64 b] [] = some (.bool true, []) := by
  cases b1 : decide (200 < (l.length : Int))
  case true => exact lim_fun hG (h := runV (And.intro b1 (iV_len l)) trivial trivial)
  have k1 : l.length ≤ 200 := by simp at b1; omega
  have t1 := hP l (by omega) a b
  have t2 := hD l (by omega)
  have t3 := hS a
  have t4 := hS b
  have t5 := hC l (by omega)
  unfold passedV at t1
  have F0 := And.intro b1 (iV_len l)
  clear hP hD hS hC
  cases hf : fitsD l
  · rw [hf] at t2
    rw [if_neg (by simp [hf])] at t1
    clear t5
    exact lim_fun hG (h := runV F0 trivial trivial)
  rw [hf] at t2
  cases ha : rightT a
  · rw [ha] at t3
    rw [if_neg (by simp [ha])] at t1
    clear t5
    exact lim_fun hG (h := runV F0 trivial trivial)
  rw [ha] at t3
  cases hb : rightT b
  · rw [hb] at t4
    rw [if_neg (by simp [hb])] at t1
    clear t5
    exact lim_fun hG (h := runV F0 trivial trivial)
  rw [hb] at t4
  cases hc : decide (b < a)
  case true =>
    rw [if_neg (by simp only [decide_eq_true_eq] at hc; omega)] at t1
    clear t5
    exact lim_fun hG (h := runV (And.intro hc F0) trivial trivial)
  have hab : a ≤ b := by simp only [decide_eq_false_iff_not] at hc; omega
  rw [if_pos ⟨hf, ha, hb, hab⟩] at t1
  have hF := fit_of hf
  have ba := right_bd ha
  have bb := right_bd hb
  have hln := hF.len
  have e1 : IntKind.i64.wrap (b - a) = b - a := wrapi64 _ (by omega) (by omega)
  cases c : decide (3000 < b - a)
  case true =>
    have hfar := before_far hF ba.1 hab
    have e2 : IntKind.i64.wrap ((b - a).tdiv 96) = (b - a) / 96 := by rw [Int.tdiv_eq_ediv_of_nonneg (by omega), wrapi64 _ (by omega) (by omega)]
    have hp : 0 ≤ (b - a) / 96 * (l.length : Int) ∧ (b - a) / 96 * (l.length : Int) ≤ 11453246123 * 96 := ⟨Int.mul_nonneg (by omega) (by omega), Int.mul_le_mul (by omega) (by omega) (by omega) (by omega)⟩
    have e3 : IntKind.i64.wrap ((b - a) / 96 * (l.length : Int)) = (b - a) / 96 * (l.length : Int) := wrapi64 _ (by omega) (by omega)
    have c2 : decide ((b - a) / 96 * (l.length : Int) ≤ beforeN l b - beforeN l a) = true := by simpa using hfar
    obtain ⟨x, hx⟩ : ∃ x, x = beforeN l b - beforeN l a := ⟨_, rfl⟩
    rw [← hx] at t1 c2
    clear t5
    exact lim_fun hG (h := runV (And.intro hc (And.intro e1 (And.intro c (And.intro e2 (And.intro e3 (And.intro c2 F0)))))) trivial trivial)
  have k3 : b - a ≤ 3000 := by simpa using c
  have e2 : IntKind.i64.wrap (a + 1) = a + 1 := wrapi64 _ (by omega) (by omega)
  obtain ⟨v, hv⟩ : ∃ v, v = beforeN l b - beforeN l a := ⟨_, rfl⟩
  rw [← hv] at t1
  refine lim_fun hG (h := runV (And.intro hc (And.intro e1 (And.intro e2 (And.intro c F0)))) trivial ?_)
  clear t1 t2 t3 t4
  refine WL_loop (SPd l b v) (fun x => a + 1 ≤ x.1 ∧ x.1 ≤ b + 1 ∧ 0 ≤ x.2 ∧ x.2 ≤ 4000 - (b + 1 - x.1) ∧ x.2 + beforeN l a = beforeN l (x.1 - 1)) (fun x => (b + 1 - x.1).toNat) ?_ (a + 1, 0) _ ⟨by simp only; omega, by simp only; omega, by simp only; omega, by simp only; omega, by simp only; rw [show a + 1 - 1 = a by omega]; omega⟩ (by kernel_rfl)
  rintro ⟨n, w⟩ ⟨h1, h2, h3, h4, h5⟩
  simp only at h1 h2 h3 h4 h5
  by_cases hn : n ≤ b
  · have c1 : decide (n ≤ b) = true := by simpa using hn
    have i1 : IntKind.i64.wrap (n + 1) = n + 1 := wrapi64 _ (by omega) (by omega)
    have i2 : IntKind.i64.wrap (w + 1) = w + 1 := wrapi64 _ (by omega) (by omega)
    have t6 := t5 n (by omega)
    have hst := before_step hF (t := n - 1) (by omega)
    rw [show n - 1 + 1 = n by omega] at hst
    clear t5
    unfold SPd
    cases hcl : closesB l n
    · rw [hcl] at t6 hst
      simp only [Bool.false_eq_true, if_false] at hst
      refine runV (And.intro c1 (And.intro i1 (And.intro i2 F0))) trivial ?_
      exact Qr_n (n + 1, w) (by kernel_rfl) ⟨⟨by simp only; omega, by simp only; omega, by simp only; omega, by simp only; omega, by simp only; rw [show n + 1 - 1 = n by omega]; omega⟩, by simp only; omega⟩
    · rw [hcl] at t6 hst
      simp only [if_true] at hst
      refine runV (And.intro c1 (And.intro i1 (And.intro i2 F0))) trivial ?_
      exact Qr_n (n + 1, w + 1) (by kernel_rfl) ⟨⟨by simp only; omega, by simp only; omega, by simp only; omega, by simp only; omega, by simp only; rw [show n + 1 - 1 = n by omega]; omega⟩, by simp only; omega⟩
  · obtain rfl : n = b + 1 := by omega
    have c1 : decide (b + 1 ≤ b) = false := by simp; omega
    rw [show b + 1 - 1 = b by omega] at h5
    obtain rfl : w = v := by omega
    clear t5 hv
    unfold SPd
    refine runV c1 trivial ?_
    refine Qr_x ?_
    refine Qb_x (σ1 := ⟨(.gone 0 :: .gone 0 :: .gone 0 :: .gone 0 :: .gone 0 :: .gone 0 :: .gone 0 :: .int .i64 w :: .int .i64 0 :: .int .i64 w :: .gone 0 :: .gone 0 :: .gone 0 :: .gone 0 :: .gone 0 :: .gone 0 :: .gone 0 :: .gone 0 :: .gone 0 :: .gone 0 :: .gone 0 :: .gone 0 :: .gone 0 :: .gone 0 :: .gone 0 :: .gone 0 :: .gone 0 :: .gone 0 :: .gone 0 :: .gone 0 :: .gone 0 :: .gone 0 :: .gone 0 :: .gone 0 :: .gone 0 :: .gone 0 :: .gone 0 :: .gone 0 :: .gone 0 :: .gone 0 :: .gone 0 :: .gone 0 :: .gone 0 :: .gone 0 :: .gone 0 :: .gone 0 :: .gone 0 :: .gone 0 :: .gone 0 :: .gone 0 :: .gone 0 :: .gone 0 :: .gone 0 :: .gone 0 :: .gone 0 :: .gone 0 :: .gone 0 :: .gone 0 :: .gone 0 :: .gone 0 :: .gone 0 :: .gone 0 :: .gone 0 :: .gone 0 :: .gone 0 :: .gone 0 :: .gone 0 :: .gone 0 :: .gone 0 :: .gone 0 :: .gone 0 :: .gone 0 :: .gone 0 :: .gone 0 :: .gone 0 :: .gone 0 :: .gone 0 :: .gone 0 :: .gone 0 :: .gone 0 :: .gone 0 :: .gone 0 :: .gone 0 :: []), []⟩) (by kernel_rfl) ?_
    exact runV trivial trivial trivial
end
end P1
end Go.Vq
namespace Go.Vq
namespace P1
open Go
set_option maxRecDepth 1000000
set_option maxHeartbeats 8000000
abbrev b12 : VCode := .seq (.region [⟨some 4, .assign (.val (.bool false)), none, 0⟩] false) (.seq (.seq (.region [⟨some 6, .move (.tmp 0), none, 0⟩, ⟨some 7, .len (.slc 1) (.tmp 6), none, 1⟩, ⟨some 8, .move (.tmp 1), none, 0⟩, ⟨some 9, .len (.slc 1) (.tmp 8), none, 4⟩, ⟨some 10, .eq true (.num) (.tmp 7) (.tmp 9), none, 15⟩] false) (.cond (.tmp 10) (.seq (.region [⟨some 4, .assign (.val (.bool false)), none, 0⟩] false) (.ret)) (.skip))) (.seq (.seq (.region [⟨some 11, .move (.tmp 0), none, 0⟩, ⟨some 12, .len (.slc 1) (.tmp 11), none, 1⟩, ⟨some 13, .move (.val (.int .i64 0)), none, 0⟩] false) (.block 0 (some []) (.loop (some [0, 1, 12, 13]) (.seq (.region [⟨some 14, .bin (.lss) (.tmp 13) (.tmp 12), none, 0⟩] false) (.seq (.cond (.tmp 14) (.skip) (.exit 0)) (.seq (.block 1 none (.seq (.region [⟨some 15, .move (.tmp 13), none, 0⟩, ⟨some 5, .assign (.tmp 15), none, 1⟩] false) (.seq (.region [⟨some 16, .move (.tmp 0), none, 0⟩, ⟨some 17, .move (.tmp 5), none, 0⟩, ⟨some 18, .indexAddr none 1 (.tmp 16) (.tmp 17), none, 3⟩, ⟨some 19, .load false 1 (.tmp 18), none, 7⟩, ⟨some 20, .move (.tmp 1), none, 0⟩, ⟨some 21, .move (.tmp 5), none, 0⟩, ⟨some 22, .indexAddr none 1 (.tmp 20) (.tmp 21), none, 48⟩, ⟨some 23, .load false 1 (.tmp 22), none, 112⟩, ⟨some 24, .eq true (.num) (.tmp 19) (.tmp 23), none, 255⟩] true) (.cond (.tmp 24) (.seq (.region [⟨some 4, .assign (.val (.bool false)), none, 0⟩] false) (.ret)) (.skip))))) (.region [⟨some 25, .bin (.add) (.tmp 13) (.val (.int .i64 1)), none, 0⟩, ⟨some 13, .move (.tmp 25), none, 1⟩] false))))))) (.seq (.region [⟨some 4, .assign (.val (.bool true)), none, 0⟩] false) (.ret))))
abbrev v12 : VFunc := { nparams := 2, ntmps := 26, nsites := 0, results := [.tmp 4], body := b12 }
abbrev b11 : VCode := .seq (.region [⟨some 2, .assign (.val (.nilS 1)), none, 0⟩, ⟨some 3, .assign (.val (.int .i64 0)), none, 1⟩] false) (.seq (.region [⟨some 10, .buildSlice 1 [] [], none, 0⟩, ⟨some 4, .assign (.tmp 10), none, 1⟩] false) (.seq (.seq (.region [⟨some 5, .assign (.val (.int .i64 0)), none, 0⟩] false) (.block 0 (some [0, 4]) (.loop (some [0, 4, 5]) (.seq (.seq (.region [⟨some 11, .move (.tmp 5), none, 0⟩, ⟨some 12, .bin (.lss) (.tmp 11) (.val (.int .i64 96)), none, 1⟩] false) (.cond (.tmp 12) (.skip) (.exit 0))) (.seq (.block 1 (some [0, 4, 5]) (.seq (.region [⟨some 15, .move (.tmp 0), none, 0⟩, ⟨some 16, .len (.slc 1) (.tmp 15), none, 1⟩, ⟨some 17, .move (.val (.int .i64 0)), none, 0⟩] false) (.block 2 (some [0, 4, 5]) (.loop (some [0, 4, 5, 15, 16, 17]) (.seq (.region [⟨some 18, .bin (.lss) (.tmp 17) (.tmp 16), none, 0⟩] false) (.seq (.cond (.tmp 18) (.skip) (.exit 2)) (.seq (.block 3 none (.seq (.region [⟨some 19, .indexAddr none 1 (.tmp 15) (.tmp 17), none, 0⟩, ⟨some 20, .load false 1 (.tmp 19), none, 1⟩, ⟨some 7, .assign (.tmp 20), none, 3⟩] false) (.seq (.region [⟨some 21, .move (.tmp 7), none, 0⟩, ⟨some 22, .move (.tmp 5), none, 0⟩, ⟨some 23, .eq false (.num) (.tmp 21) (.tmp 22), none, 3⟩] false) (.cond (.tmp 23) (.seq (.region [⟨some 24, .move (.tmp 4), none, 0⟩, ⟨some 25, .move (.tmp 5), none, 0⟩, ⟨some 26, .buildSlice 1 [(.int .i64 0)] [(0, (.tmp 25))], none, 2⟩, ⟨some 27, .append 1 8 (.tmp 24) (.tmp 26), none, 7⟩, ⟨some 4, .assign (.tmp 27), none, 15⟩] false) (.exit 2)) (.skip))))) (.region [⟨some 28, .bin (.add) (.tmp 17) (.val (.int .i64 1)), none, 0⟩, ⟨some 17, .move (.tmp 28), none, 1⟩] false)))))))) (.region [⟨some 13, .move (.tmp 5), none, 0⟩, ⟨some 14, .bin (.add) (.tmp 13) (.val (.int .i64 1)), none, 1⟩, ⟨some 5, .assign (.tmp 14), none, 3⟩] false)))))) (.seq (.seq (.region [⟨some 29, .move (.tmp 0), none, 0⟩, ⟨some 30, .len (.slc 1) (.tmp 29), none, 1⟩, ⟨some 31, .move (.val (.int .i64 0)), none, 0⟩] false) (.block 4 (some [0, 4]) (.loop (some [0, 4, 29, 30, 31]) (.seq (.region [⟨some 32, .bin (.lss) (.tmp 31) (.tmp 30), none, 0⟩] false) (.seq (.cond (.tmp 32) (.skip) (.exit 4)) (.seq (.block 5 none (.seq (.region [⟨some 33, .indexAddr none 1 (.tmp 29) (.tmp 31), none, 0⟩, ⟨some 34, .load false 1 (.tmp 33), none, 1⟩, ⟨some 9, .assign (.tmp 34), none, 3⟩] false) (.seq (.region [⟨some 35, .move (.tmp 9), none, 0⟩, ⟨some 36, .bin (.lss) (.tmp 35) (.val (.int .i64 0)), none, 1⟩, ⟨some 37, .move (.tmp 36), none, 3⟩, ⟨some 38, .move (.tmp 9), some (37, false), 7⟩, ⟨some 39, .bin (.gtr) (.tmp 38) (.val (.int .i64 95)), some (37, false), 15⟩, ⟨some 40, .pick (.tmp 37) (.val (.bool true)) (.tmp 39), none, 31⟩] false) (.cond (.tmp 40) (.seq (.region [⟨some 2, .assign (.val (.nilS 1)), none, 0⟩, ⟨some 3, .assign (.val (.int .i64 31)), none, 1⟩] false) (.ret)) (.skip))))) (.region [⟨some 41, .bin (.add) (.tmp 31) (.val (.int .i64 1)), none, 0⟩, ⟨some 31, .move (.tmp 41), none, 1⟩] false))))))) (.seq (.seq (.region [⟨some 42, .move (.tmp 0), none, 0⟩, ⟨some 43, .len (.slc 1) (.tmp 42), none, 1⟩, ⟨some 44, .eq false (.num) (.tmp 43) (.val (.int .i64 0)), none, 3⟩] false) (.cond (.tmp 44) (.seq (.region [⟨some 2, .assign (.val (.nilS 1)), none, 0⟩, ⟨some 3, .assign (.val (.int .i64 31)), none, 1⟩] false) (.ret)) (.skip))) (.seq (.region [⟨some 45, .move (.tmp 4), none, 0⟩, ⟨some 2, .assign (.tmp 45), none, 1⟩, ⟨some 3, .assign (.val (.int .i64 0)), none, 3⟩] false) (.ret))))))
abbrev v11 : VFunc := { nparams := 1, ntmps := 46, nsites := 0, results := [.tmp 2, .tmp 3], body := b11 }
def uptoD (l : List Int) (n : Nat) : List Int := ((List.range n).filter fun (i : Nat) => decide ((i : Int) ∈ l)).map fun (i : Nat) => (i : Int)
theorem uptoD_succ (l : List Int) (n : Nat) : uptoD l (n + 1) = uptoD l n ++ (if (n : Int) ∈ l then [(n : Int)] else []) := by
  unfold uptoD
  rw [List.range_succ, List.filter_append, List.map_append]
  by_cases h : (n : Int) ∈ l
  · simp [h]
  · simp [h]
def inD (l : List Int) : Bool := l.all fun x => decide (0 ≤ x) && decide (x < 96)
section
variable (G : VProg)
def SSa (l : List Int) (i : Nat) : St := ⟨(.isl 0 1 (iV l) :: .isl 0 1 (iV l) :: .gone 0 :: .gone 0 :: .gone 0 :: .gone 0 :: .gone 0 :: .gone 0 :: .gone 0 :: .gone 0 :: .gone 0 :: .gone 0 :: .int .i64 l.length :: .int .i64 i :: .gone 0 :: .gone 0 :: .gone 0 :: .gone 0 :: .gone 0 :: .gone 0 :: .gone 0 :: .gone 0 :: .gone 0 :: .gone 0 :: .gone 0 :: .gone 0 :: []), []⟩
theorem dsame (hG : G 12 = some (.code v12)) (l : List Int) (hl : l.length < 2 ^ 44) : lim G 12 [.isl 0 1 (iV l), .isl 0 1 (iV l)] [] = some (.bool true, []) := by
  refine lim_fun hG (h := runV (iV_len l) trivial ?_)
  refine WL_loop (SSa l) (fun i => i ≤ l.length) (fun i => l.length - i) ?_ 0 _ (Nat.zero_le _) (by kernel_rfl)
  intro i hi
  by_cases hlt : i < l.length
  · have c1 : decide ((i : Int) < (l.length : Int)) = true := by simp; omega
    have i1 := inc64 i (by omega)
    have hil : (i : Int) < (l.length : Int) := by omega
    have hg := iV_get l i hlt
    obtain ⟨x, hx⟩ : ∃ x, x = l[i] := ⟨_, rfl⟩
    rw [← hx] at hg
    unfold SSa
    refine runV (And.intro c1 (And.intro i1 (And.intro hil (And.intro hg (iV_len l))))) trivial ?_
    exact Qr_n (i + 1) (by kernel_rfl) ⟨by omega, by omega⟩
  · obtain rfl : i = l.length := by omega
    have c1 : decide ((l.length : Int) < (l.length : Int)) = false := by simp
    unfold SSa
    refine runV c1 trivial ?_
    refine Qr_x ?_
    refine Qb_x (σ1 := ⟨(.gone 0 :: .gone 0 :: .gone 0 :: .gone 0 :: .gone 0 :: .gone 0 :: .gone 0 :: .gone 0 :: .gone 0 :: .gone 0 :: .gone 0 :: .gone 0 :: .gone 0 :: .gone 0 :: .gone 0 :: .gone 0 :: .gone 0 :: .gone 0 :: .gone 0 :: .gone 0 :: .gone 0 :: .gone 0 :: .gone 0 :: .gone 0 :: .gone 0 :: .gone 0 :: []), []⟩) (by kernel_rfl) ?_
    exact runV trivial trivial trivial
def SDa (l : List Int) (n : Nat) : St := ⟨(.isl 0 1 (iV l) :: .gone 0 :: .gone 0 :: .gone 0 :: .xsl 0 1 (iV (uptoD l n)) :: .int .i64 n :: .gone 0 :: .gone 0 :: .gone 0 :: .gone 0 :: .gone 0 :: .gone 0 :: .gone 0 :: .gone 0 :: .gone 0 :: .gone 0 :: .gone 0 :: .gone 0 :: .gone 0 :: .gone 0 :: .gone 0 :: .gone 0 :: .gone 0 :: .gone 0 :: .gone 0 :: .gone 0 :: .gone 0 :: .gone 0 :: .gone 0 :: .gone 0 :: .gone 0 :: .gone 0 :: .gone 0 :: .gone 0 :: .gone 0 :: .gone 0 :: .gone 0 :: .gone 0 :: .gone 0 :: .gone 0 :: .gone 0 :: .gone 0 :: .gone 0 :: .gone 0 :: .gone 0 :: .gone 0 :: []), []⟩
def SDb (l : List Int) (n i : Nat) : St := ⟨(.isl 0 1 (iV l) :: .gone 0 :: .gone 0 :: .gone 0 :: .xsl 0 1 (iV (uptoD l n)) :: .int .i64 n :: .gone 0 :: .gone 0 :: .gone 0 :: .gone 0 :: .gone 0 :: .gone 0 :: .gone 0 :: .gone 0 :: .gone 0 :: .isl 0 1 (iV l) :: .int .i64 l.length :: .int .i64 i :: .gone 0 :: .gone 0 :: .gone 0 :: .gone 0 :: .gone 0 :: .gone 0 :: .gone 0 :: .gone 0 :: .gone 0 :: .gone 0 :: .gone 0 :: .gone 0 :: .gone 0 :: .gone 0 :: .gone 0 :: .gone 0 :: .gone 0 :: .gone 0 :: .gone 0 :: .gone 0 :: .gone 0 :: .gone 0 :: .gone 0 :: .gone 0 :: .gone 0 :: .gone 0 :: .gone 0 :: .gone 0 :: []), []⟩
def SDc (l out : List Int) (i : Nat) : St := ⟨(.isl 0 1 (iV l) :: .gone 0 :: .gone 0 :: .gone 0 :: .xsl 0 1 (iV out) :: .gone 0 :: .gone 0 :: .gone 0 :: .gone 0 :: .gone 0 :: .gone 0 :: .gone 0 :: .gone 0 :: .gone 0 :: .gone 0 :: .gone 0 :: .gone 0 :: .gone 0 :: .gone 0 :: .gone 0 :: .gone 0 :: .gone 0 :: .gone 0 :: .gone 0 :: .gone 0 :: .gone 0 :: .gone 0 :: .gone 0 :: .gone 0 :: .isl 0 1 (iV l) :: .int .i64 l.length :: .int .i64 i :: .gone 0 :: .gone 0 :: .gone 0 :: .gone 0 :: .gone 0 :: .gone 0 :: .gone 0 :: .gone 0 :: .gone 0 :: .gone 0 :: .gone 0 :: .gone 0 :: .gone 0 :: .gone 0 :: []), []⟩
theorem rdoors (hG : G 11 = some (.code v11)) (l : List Int) (hl : l.length < 2 ^ 44) : lim G 11 [.isl 0 1 (iV l)] [] = some (if inD l = true ∧ l ≠ [] then .tup [.xsl 0 1 (iV (uptoD l 96)), .int .i64 0] else .tup [.xsl 0 1 [], .int .i64 31], []) := by
  refine lim_fun hG (h := runV (iV_len l) trivial ?_)
  refine WL_loop (SDa l) (fun n => n ≤ 96) (fun n => 96 - n) ?_ 0 _ (Nat.zero_le _) (by kernel_rfl)
  intro n hn
  by_cases hlt : n < 96
  · have c1 : decide ((n : Int) < 96) = true := by simp; omega
    have i1 := inc64 n (by omega)
    unfold SDa
    refine runV (And.intro c1 (iV_len l)) trivial ?_
    refine WL_loop (SDb l n) (fun i => i ≤ l.length ∧ (n : Int) ∉ l.take i) (fun i => l.length - i) ?_ 0 _ ⟨Nat.zero_le _, by simp⟩ (by kernel_rfl)
    rintro i ⟨hi, hno⟩
    have hs := uptoD_succ l n
    by_cases hil' : i < l.length
    · have c2 : decide ((i : Int) < (l.length : Int)) = true := by simp; omega
      have i2 := inc64 i (by omega)
      have hil : (i : Int) < (l.length : Int) := by omega
      have hg := iV_get l i hil'
      obtain ⟨x, hx⟩ : ∃ x, x = l[i] := ⟨_, rfl⟩
      rw [← hx] at hg
      have F := And.intro c2 (And.intro i2 (And.intro hil (And.intro hg (iV_len l))))
      obtain ⟨up, hup⟩ : ∃ up, up = uptoD l n := ⟨_, rfl⟩
      cases d : (x == (n : Int))
      · unfold SDb
        rw [← hup]
        refine runV (And.intro d F) trivial ?_
        refine Qr_n (i + 1) (by rw [hup]; kernel_rfl) ⟨⟨by omega, ?_⟩, by omega⟩
        rw [List.take_add_one, List.getElem?_eq_getElem hil', Option.toList_some, List.mem_append, List.mem_singleton, ← hx]
        rintro (h | h)
        · exact hno h
        · subst h; simp at d
      · have hxn : x = (n : Int) := by simpa using d
        have hm : (n : Int) ∈ l := by rw [← hxn, hx]; exact List.getElem_mem hil'
        rw [if_pos hm] at hs
        have hul : (uptoD l n).length ≤ n := by
          unfold uptoD
          rw [List.length_map]
          exact Nat.le_trans (List.length_filter_le _ _) (by simp)
        unfold SDb
        rw [← hup]
        rw [← hup] at hs hul
        have hcap : (up.length + 1) * 8 ≤ 140737488355328 := by omega
        refine runV (And.intro d F) hcap ?_
        refine Qr_x ?_
        refine Qb_x (σ1 := ⟨(.isl 0 1 (iV l) :: .gone 0 :: .gone 0 :: .gone 0 :: .xsl 0 1 (iV (uptoD l (n + 1))) :: .int .i64 n :: .gone 0 :: .gone 0 :: .gone 0 :: .gone 0 :: .gone 0 :: .gone 0 :: .gone 0 :: .gone 0 :: .gone 0 :: .gone 0 :: .gone 0 :: .gone 0 :: .gone 0 :: .gone 0 :: .gone 0 :: .gone 0 :: .gone 0 :: .gone 0 :: .gone 0 :: .gone 0 :: .gone 0 :: .gone 0 :: .gone 0 :: .gone 0 :: .gone 0 :: .gone 0 :: .gone 0 :: .gone 0 :: .gone 0 :: .gone 0 :: .gone 0 :: .gone 0 :: .gone 0 :: .gone 0 :: .gone 0 :: .gone 0 :: .gone 0 :: .gone 0 :: .gone 0 :: .gone 0 :: []), []⟩) (by
          rw [hs, show iV (up ++ [(n : Int)]) = iV up ++ [.int .i64 n] by simp]; kernel_rfl) ?_
        refine Qb_n (σ1 := ⟨(.isl 0 1 (iV l) :: .gone 0 :: .gone 0 :: .gone 0 :: .xsl 0 1 (iV (uptoD l (n + 1))) :: .int .i64 n :: .gone 0 :: .gone 0 :: .gone 0 :: .gone 0 :: .gone 0 :: .gone 0 :: .gone 0 :: .gone 0 :: .gone 0 :: .gone 0 :: .gone 0 :: .gone 0 :: .gone 0 :: .gone 0 :: .gone 0 :: .gone 0 :: .gone 0 :: .gone 0 :: .gone 0 :: .gone 0 :: .gone 0 :: .gone 0 :: .gone 0 :: .gone 0 :: .gone 0 :: .gone 0 :: .gone 0 :: .gone 0 :: .gone 0 :: .gone 0 :: .gone 0 :: .gone 0 :: .gone 0 :: .gone 0 :: .gone 0 :: .gone 0 :: .gone 0 :: .gone 0 :: .gone 0 :: .gone 0 :: []), []⟩) (by kernel_rfl) ?_
        refine runV i1 trivial ?_
        exact Qr_n (n + 1) (by kernel_rfl) ⟨by omega, by omega⟩
    · obtain rfl : i = l.length := by omega
      have c2 : decide ((l.length : Int) < (l.length : Int)) = false := by simp
      rw [List.take_length] at hno
      rw [if_neg hno, List.append_nil] at hs
      unfold SDb
      refine runV c2 trivial ?_
      refine Qr_x ?_
      refine Qb_x (σ1 := ⟨(.isl 0 1 (iV l) :: .gone 0 :: .gone 0 :: .gone 0 :: .xsl 0 1 (iV (uptoD l (n + 1))) :: .int .i64 n :: .gone 0 :: .gone 0 :: .gone 0 :: .gone 0 :: .gone 0 :: .gone 0 :: .gone 0 :: .gone 0 :: .gone 0 :: .gone 0 :: .gone 0 :: .gone 0 :: .gone 0 :: .gone 0 :: .gone 0 :: .gone 0 :: .gone 0 :: .gone 0 :: .gone 0 :: .gone 0 :: .gone 0 :: .gone 0 :: .gone 0 :: .gone 0 :: .gone 0 :: .gone 0 :: .gone 0 :: .gone 0 :: .gone 0 :: .gone 0 :: .gone 0 :: .gone 0 :: .gone 0 :: .gone 0 :: .gone 0 :: .gone 0 :: .gone 0 :: .gone 0 :: .gone 0 :: .gone 0 :: []), []⟩) (by rw [hs]; kernel_rfl) ?_
      refine Qb_n (σ1 := ⟨(.isl 0 1 (iV l) :: .gone 0 :: .gone 0 :: .gone 0 :: .xsl 0 1 (iV (uptoD l (n + 1))) :: .int .i64 n :: .gone 0 :: .gone 0 :: .gone 0 :: .gone 0 :: .gone 0 :: .gone 0 :: .gone 0 :: .gone 0 :: .gone 0 :: .gone 0 :: .gone 0 :: .gone 0 :: .gone 0 :: .gone 0 :: .gone 0 :: .gone 0 :: .gone 0 :: .gone 0 :: .gone 0 :: .gone 0 :: .gone 0 :: .gone 0 :: .gone 0 :: .gone 0 :: .gone 0 :: .gone 0 :: .gone 0 :: .gone 0 :: .gone 0 :: .gone 0 :: .gone 0 :: .gone 0 :: .gone 0 :: .gone 0 :: .gone 0 :: .gone 0 :: .gone 0 :: .gone 0 :: .gone 0 :: .gone 0 :: []), []⟩) (by kernel_rfl) ?_
      refine runV i1 trivial ?_
      exact Qr_n (n + 1) (by kernel_rfl) ⟨by omega, by omega⟩
  · obtain rfl : n = 96 := by omega
    have c1 : decide (((96 : Nat) : Int) < 96) = false := by decide
    obtain ⟨up, hup⟩ : ∃ up, up = uptoD l 96 := ⟨_, rfl⟩
    unfold SDa
    rw [← hup]
    refine runV c1 trivial ?_
    refine Qr_x ?_
    refine Qb_x (σ1 := ⟨(.isl 0 1 (iV l) :: .gone 0 :: .gone 0 :: .gone 0 :: .xsl 0 1 (iV up) :: .gone 0 :: .gone 0 :: .gone 0 :: .gone 0 :: .gone 0 :: .gone 0 :: .gone 0 :: .gone 0 :: .gone 0 :: .gone 0 :: .gone 0 :: .gone 0 :: .gone 0 :: .gone 0 :: .gone 0 :: .gone 0 :: .gone 0 :: .gone 0 :: .gone 0 :: .gone 0 :: .gone 0 :: .gone 0 :: .gone 0 :: .gone 0 :: .gone 0 :: .gone 0 :: .gone 0 :: .gone 0 :: .gone 0 :: .gone 0 :: .gone 0 :: .gone 0 :: .gone 0 :: .gone 0 :: .gone 0 :: .gone 0 :: .gone 0 :: .gone 0 :: .gone 0 :: .gone 0 :: .gone 0 :: []), []⟩) (by kernel_rfl) ?_
    refine runV (iV_len l) trivial ?_
    refine WL_loop (SDc l up) (fun i => i ≤ l.length ∧ inD (l.take i) = true) (fun i => l.length - i) ?_ 0 _ ⟨Nat.zero_le _, rfl⟩ (by kernel_rfl)
    rintro i ⟨hi, hin⟩
    by_cases hil' : i < l.length
    · have c2 : decide ((i : Int) < (l.length : Int)) = true := by simp; omega
      have i2 := inc64 i (by omega)
      have hil : (i : Int) < (l.length : Int) := by omega
      have hg := iV_get l i hil'
      obtain ⟨x, hx⟩ : ∃ x, x = l[i] := ⟨_, rfl⟩
      rw [← hx] at hg
      have hbad : (0 ≤ x ∧ x < 96 → False) → inD l = false := by
        intro hb
        cases e : inD l
        · rfl
        · unfold inD at e
          rw [List.all_eq_true] at e
          have := e x (by rw [hx]; exact List.getElem_mem hil')
          simp at this
          exact (hb (by omega)).elim
      have F := And.intro c2 (And.intro i2 (And.intro hil (And.intro hg (iV_len l))))
      unfold SDc
      cases d1 : decide (x < 0)
      case true =>
        rw [if_neg (by rw [hbad (by simp at d1; omega)]; simp)]
        refine runV (And.intro d1 F) trivial ?_
        exact Qr_r (Qb_r (Qs_r (Qe_r (by kernel_rfl))))
      cases d2 : decide (95 < x)
      case true =>
        rw [if_neg (by rw [hbad (by simp at d2; omega)]; simp)]
        refine runV (And.intro d1 (And.intro d2 F)) trivial ?_
        exact Qr_r (Qb_r (Qs_r (Qe_r (by kernel_rfl))))
      refine runV (And.intro d1 (And.intro d2 F)) trivial ?_
      refine Qr_n (i + 1) (by kernel_rfl) ⟨⟨by omega, ?_⟩, by omega⟩
      unfold inD at hin ⊢
      rw [List.take_add_one, List.getElem?_eq_getElem hil', Option.toList_some, List.all_append, hin, ← hx]
      simp at d1 d2 ⊢
      omega
    · obtain rfl : i = l.length := by omega
      have c2 : decide ((l.length : Int) < (l.length : Int)) = false := by simp
      rw [List.take_length] at hin
      unfold SDc
      refine runV c2 trivial ?_
      refine Qr_x ?_
      refine Qb_x (σ1 := ⟨(.isl 0 1 (iV l) :: .gone 0 :: .gone 0 :: .gone 0 :: .xsl 0 1 (iV up) :: .gone 0 :: .gone 0 :: .gone 0 :: .gone 0 :: .gone 0 :: .gone 0 :: .gone 0 :: .gone 0 :: .gone 0 :: .gone 0 :: .gone 0 :: .gone 0 :: .gone 0 :: .gone 0 :: .gone 0 :: .gone 0 :: .gone 0 :: .gone 0 :: .gone 0 :: .gone 0 :: .gone 0 :: .gone 0 :: .gone 0 :: .gone 0 :: .gone 0 :: .gone 0 :: .gone 0 :: .gone 0 :: .gone 0 :: .gone 0 :: .gone 0 :: .gone 0 :: .gone 0 :: .gone 0 :: .gone 0 :: .gone 0 :: .gone 0 :: .gone 0 :: .gone 0 :: .gone 0 :: .gone 0 :: []), []⟩) (by kernel_rfl) ?_
      cases d3 : ((l.length : Int) == 0)
      · rw [if_pos ⟨hin, by rintro rfl; simp at d3⟩]
        refine runV (And.intro d3 (iV_len l)) trivial ?_
        exact Qe_r (fin_own2b rfl rfl rfl rfl rfl (by simp))
      · rw [if_neg (by rintro ⟨_, h⟩; exact h (List.eq_nil_of_length_eq_zero (by simp at d3; simpa using d3)))]
        exact runV (And.intro d3 (iV_len l)) trivial trivial
end
end P1
end Go.Vq
namespace Go.Vq
namespace P1
open Go
set_option maxRecDepth 1000000
set_option maxHeartbeats 8000000
abbrev b24 : VCode := .seq (.region [⟨some 1, .ibox 0 1 (.tmp 0), none, 0⟩, ⟨some 2, .assign (.val .nilf), none, 0⟩] false) (.seq (.region [⟨some 3, .makeFunc 31 [(.tmp 1)], none, 0⟩, ⟨some 2, .assign (.tmp 3), none, 1⟩] false) (.ret))
abbrev v24 : VFunc := { nparams := 1, ntmps := 4, nsites := 1, results := [.tmp 2], body := b24 }
abbrev b35 : VCode := .seq (.region [⟨some 2, .box 0 1 (.tmp 0), none, 0⟩, ⟨some 4, .assign (.val (.nilS 1)), none, 0⟩] false) (.seq (.seq (.region [⟨some 6, .move (.tmp 1), none, 0⟩] false) (.block 0 (some [2]) (.range (.tmp 6) [7] 1 (some [2]) (.region [⟨some 5, .assign (.tmp 7), none, 0⟩] false) (.block 1 none (.region [⟨some 8, .load false 1 (.tmp 2), none, 0⟩, ⟨some 9, .move (.tmp 5), none, 0⟩, ⟨some 10, .buildSlice 1 [(.int .i64 0)] [(0, (.tmp 9))], none, 2⟩, ⟨some 11, .append 1 8 (.tmp 8) (.tmp 10), none, 7⟩, ⟨none, .store 1 (.tmp 2) (.tmp 11), none, 15⟩] false))))) (.seq (.region [⟨some 12, .load false 1 (.tmp 2), none, 0⟩, ⟨some 4, .assign (.tmp 12), none, 1⟩] false) (.ret)))
abbrev v35 : VFunc := { nparams := 2, ntmps := 13, nsites := 1, results := [.tmp 4], body := b35 }
abbrev b29 : VCode := .seq (.region [⟨some 2, .assign (.val (.nilS 1)), none, 0⟩] false) (.seq (.region [⟨some 3, .move (.tmp 0), none, 0⟩, ⟨some 4, .callm 1 35 0 [(.val (.nilS 1)), (.tmp 3)], none, 1⟩, ⟨some 2, .assign (.tmp 4), none, 3⟩] false) (.ret))
abbrev v29 : VFunc := { nparams := 1, ntmps := 5, nsites := 0, results := [.tmp 2], body := b29 }
abbrev b23 : VCode := .seq (.region [⟨some 2, .assign (.val (.nilS 1)), none, 0⟩] false) (.seq (.region [⟨some 4, .move (.tmp 0), none, 0⟩, ⟨some 5, .call false 29 0 [(.tmp 4)], none, 1⟩, ⟨some 3, .assign (.tmp 5), none, 3⟩] false) (.seq (.region [⟨some 6, .move (.tmp 3), none, 0⟩, ⟨some 7, .calli 30 0 [(.tmp 6)], none, 1⟩] false) (.seq (.region [⟨some 8, .move (.tmp 3), none, 0⟩, ⟨some 2, .assign (.tmp 8), none, 1⟩] false) (.ret))))
abbrev v23 : VFunc := { nparams := 1, ntmps := 9, nsites := 0, results := [.tmp 2], body := b23 }
section
variable (G : VProg)
theorem dvalues (hG : G 24 = some (.code v24)) (l : List Int) : lim G 24 [.isl 0 1 (iV l)] [] = some (.func 31 [.iptr [.isl 0 1 (iV l)]], []) :=
  lim_fun hG (h := runV trivial trivial trivial)
def SAs (g : Nat) (l : List Int) : St := ⟨(.gone 0 :: .gone 0 :: .ptr (.obj 0 0) :: .gone 0 :: .gone 0 :: .gone 0 :: .gone 0 :: .gone 0 :: .gone 0 :: .gone 0 :: .gone 0 :: .gone 0 :: .gone 0 :: []), [some (.cells [.xsl g 1 (iV l)])]⟩
theorem iV_app (l : List Int) (x : Int) : iV (l ++ [x]) = iV l ++ [.int .i64 x] := by simp [iV]
theorem dappend (hG : G 35 = some (.code v35)) (hI : G 31 = some (.iter (valuesI false 1)))
    (l : List Int) (hl : l.length < 2 ^ 44) :
    lim G 35 [.nilS 1, .func 31 [.iptr [.isl 0 1 (iV l)]]] [] = some (.xsl 0 1 (iV l), []) := by
  have hids : (V.func 31 [.iptr [.isl 0 1 (iV l)]]).objIds = [] := rfl
  refine lim_fun hG (h := runV hids trivial ?_)
  refine Vq.W_range (g := 31) (caps := [.iptr [.isl 0 1 (iV l)]]) (bs := [[.isl 0 1 (iV l)]]) (base := 0) (site := 1) rfl rfl (xs := l.map fun x => [V.int .i64 x]) ?_ (fun k => SAs 0 (l.take k)) (fun k => k ≤ l.length) (Nat.zero_le _) ?_ (fun k hk hI => ?_) (fun hI => ?_)
  · simp only [itersOf, hI, valuesI]
    rw [if_pos ⟨trivial, by rw [iV_len]; omega⟩]
    simp [iV, fixE, V.cells]
  · kernel_rfl
  · have hkl : k < l.length := by simpa using hk
    have hxs : (l.map fun x => [V.int .i64 x])[k] = [V.int .i64 l[k]] := by simp
    rw [hxs]
    have htk : l.take (k + 1) = l.take k ++ [l[k]] := by rw [List.take_add_one, List.getElem?_eq_getElem hkl]; rfl
    obtain ⟨x, hx⟩ : ∃ x, x = l[k] := ⟨_, rfl⟩
    rw [← hx] at htk ⊢
    have hlen : (l.take k).length = k := by simp; omega
    obtain ⟨up, hup⟩ : ∃ up, up = l.take k := ⟨_, rfl⟩
    rw [← hup] at htk hlen ⊢
    rw [htk]
    unfold SAs setPs
    simp only [List.zip_cons_cons, List.zip_nil_right, List.foldl_cons, List.foldl_nil, List.set_cons_succ, List.set_cons_zero]
    rw [iV_app]
    have hcap : ((iV up).length + 1) * 8 ≤ 140737488355328 := by rw [iV_len, hlen]; omega
    refine runV trivial hcap ?_
    refine QsN_n ?_
    refine runV trivial hcap ?_
    exact Qi_n (by kernel_rfl) (by omega)
  · have e : (l.map fun x => [V.int .i64 x]).length = l.length := by simp
    rw [e, List.take_length]
    refine Qb_n (σ1 := SAs 0 l) (by kernel_rfl) ?_
    unfold SAs
    refine runV trivial trivial ?_
    exact Qe_r (fin_ownO rfl rfl rfl rfl (by simp))
theorem dcollect (hG : G 29 = some (.code v29)) (hA : ∀ l : List Int, l.length < 2 ^ 44 → lim G 35 [.nilS 1, .func 31 [.iptr [.isl 0 1 (iV l)]]] [] = some (.xsl 0 1 (iV l), []))
    (l : List Int) (hl : l.length < 2 ^ 44) : lim G 29 [.func 31 [.iptr [.isl 0 1 (iV l)]]] [] = some (.xsl 0 1 (iV l), []) := by
  have hids : (V.func 31 [.iptr [.isl 0 1 (iV l)]]).objIds = [] := rfl
  have g1 := hA l hl
  exact lim_fun hG (h := runV hids trivial trivial)
def srt (l : List Int) : List Int := l.mergeSort fun x y => decide (x ≤ y)
theorem dsorted (hG : G 23 = some (.code v23)) (hS : G 30 = some (.prim sortPrim))
    (hC : ∀ l : List Int, l.length < 2 ^ 44 → lim G 29 [.func 31 [.iptr [.isl 0 1 (iV l)]]] [] = some (.xsl 0 1 (iV l), []))
    (l : List Int) (hl : l.length < 2 ^ 44) : lim G 23 [.func 31 [.iptr [.isl 0 1 (iV l)]]] [] = some (.xsl 0 1 (iV (srt l)), []) := by
  have hids : (V.func 31 [.iptr [.isl 0 1 (iV l)]]).objIds = [] := rfl
  have g1 := hC l hl
  have g2 : lim G 30 [.isl 0 1 (iV l)] [] = some (.isl 0 1 (iV (srt l)), [.map []]) := by
    refine lim_prim hS ?_
    show (intsOf (intsV l)).map _ = _
    rw [intsOf_intsV]
    rfl
  by_cases h0 : l = []
  · subst h0
    have hids : (V.func 31 [.iptr [.isl 0 1 []]]).objIds = [] := rfl
    have hn : srt [] = [] := by simp [srt]
    rw [hn] at g2
    rw [hn]
    refine lim_fun hG (h := runV hids trivial ?_)
    exact end_own rfl rfl rfl rfl rfl
  · have hs : (iV l).length ≤ 140737488355328 ∧ (iV (srt l)).length = (iV l).length ∧ (iV l).length ≠ 0 := by
      rw [iV_len, iV_len]
      refine ⟨by omega, by simp [srt], fun h => h0 (List.eq_nil_of_length_eq_zero h)⟩
    refine lim_fun hG (h := runV hids trivial ?_)
    exact end_own rfl rfl rfl rfl (by simp)
end
end P1
end Go.Vq
namespace Go.Vq
namespace P1
open Go
set_option maxRecDepth 1000000
set_option maxHeartbeats 8000000
abbrev b10 : VCode := .seq (.region [⟨some 2, .assign (.val (.nilS 1)), none, 0⟩, ⟨some 3, .assign (.val (.int .i64 0)), none, 1⟩] false) (.seq (.region [⟨some 5, .move (.tmp 0), none, 0⟩, ⟨some 6, .call false 24 0 [(.tmp 5)], none, 1⟩, ⟨some 7, .call false 23 4 [(.tmp 6)], none, 3⟩, ⟨some 8, .callm 1 22 4 [(.tmp 7)], none, 7⟩, ⟨some 4, .assign (.tmp 8), none, 15⟩] false) (.seq (.seq (.region [⟨some 9, .move (.tmp 4), none, 0⟩, ⟨some 10, .call true 25 4 [(.tmp 9)], none, 1⟩, ⟨some 11, .un (.not) (.tmp 10), none, 3⟩] false) (.cond (.tmp 11) (.seq (.region [⟨some 2, .assign (.val (.nilS 1)), none, 0⟩, ⟨some 3, .assign (.val (.int .i64 31)), none, 1⟩] false) (.ret)) (.skip))) (.seq (.region [⟨some 12, .move (.tmp 4), none, 0⟩, ⟨some 2, .assign (.tmp 12), none, 1⟩, ⟨some 3, .assign (.val (.int .i64 0)), none, 3⟩] false) (.ret))))
abbrev v10 : VFunc := { nparams := 1, ntmps := 13, nsites := 4, results := [.tmp 2, .tmp 3], body := b10 }
def cpt (l : List Int) : List Int := Lib.compact (srt l)
theorem ext_inc : ∀ (a b : List Int), a.Pairwise (· < ·) → b.Pairwise (· < ·) → (∀ x, x ∈ a ↔ x ∈ b) → a = b
  | [], [], _, _, _ => rfl
  | [], y :: b, _, _, h => by have := (h y).2 (by simp); simp at this
  | x :: a, [], _, _, h => by have := (h x).1 (by simp); simp at this
  | x :: a, y :: b, ha, hb, h => by
    obtain ⟨h1, h2⟩ := List.pairwise_cons.1 ha
    obtain ⟨h3, h4⟩ := List.pairwise_cons.1 hb
    have hxy : x = y := by
      have hx := (h x).1 (by simp)
      have hy := (h y).2 (by simp)
      rcases List.mem_cons.1 hx with e | hx
      · exact e
      rcases List.mem_cons.1 hy with e | hy
      · exact e.symm
      have := h3 x hx
      have := h1 y hy
      omega
    subst hxy
    congr 1
    refine ext_inc a b h2 h4 fun z => ?_
    have hz := h z
    simp only [List.mem_cons] at hz
    constructor
    · intro hm
      rcases hz.1 (.inr hm) with e | e
      · subst e; have := h1 z hm; omega
      · exact e
    · intro hm
      rcases hz.2 (.inr hm) with e | e
      · subst e; have := h3 z hm; omega
      · exact e
theorem upTo_inc (d : Array Int) (hd : ∀ i j, i ≤ j → j < d.size → d[i]! ≤ d[j]!) : ∀ m, m ≤ d.size → (Lib.compactUpTo d m).Pairwise (· < ·) ∧ ∀ x, x ∈ Lib.compactUpTo d m ↔ ∃ j, j < m ∧ d[j]! = x
  | 0, _ => by simp [Lib.compactUpTo]
  | m + 1, hm => by
    obtain ⟨h1, h2⟩ := upTo_inc d hd m (by omega)
    rw [Lib.compactUpTo_succ]
    cases hk : Lib.keeps d m
    · simp only [Bool.false_eq_true, if_false, List.append_nil]
      refine ⟨h1, fun x => ?_⟩
      rw [h2]
      have hk' : m ≠ 0 ∧ d[m]! = d[m - 1]! := by simpa [Lib.keeps] using hk
      constructor
      · rintro ⟨j, hj, e⟩; exact ⟨j, by omega, e⟩
      · rintro ⟨j, hj, e⟩
        by_cases hjm : j = m
        · subst hjm; exact ⟨j - 1, by omega, by rw [← hk'.2]; exact e⟩
        · exact ⟨j, by omega, e⟩
    · simp only [if_true]
      refine ⟨List.pairwise_append.2 ⟨h1, by simp, fun x hx y hy => ?_⟩, fun x => ?_⟩
      · rw [List.mem_singleton] at hy
        subst hy
        obtain ⟨j, hj, e⟩ := (h2 x).1 hx
        subst e
        have hk' : m = 0 ∨ d[m]! ≠ d[m - 1]! := by simpa [Lib.keeps] using hk
        have a1 := hd j (m - 1) (by omega) (by omega)
        have a2 := hd (m - 1) m (by omega) (by omega)
        rcases hk' with hk' | hk'
        · omega
        · omega
      · rw [List.mem_append, h2, List.mem_singleton]
        constructor
        · rintro (⟨j, hj, e⟩ | e)
          · exact ⟨j, by omega, e⟩
          · exact ⟨m, by omega, e.symm⟩
        · rintro ⟨j, hj, e⟩
          by_cases hjm : j = m
          · subst hjm; exact .inr e.symm
          · exact .inl ⟨j, by omega, e⟩
theorem cpt_inc (l : List Int) : (cpt l).Pairwise (· < ·) ∧ ∀ x, x ∈ cpt l ↔ x ∈ l := by
  have hp : (srt l).Pairwise fun x y => x ≤ y := by
    have := List.pairwise_mergeSort (le := fun x y : Int => decide (x ≤ y)) (by intro a b c; simp; omega) (by intro a b; simp; omega) l
    exact this.imp fun h => by simpa using h
  have hd : ∀ i j, i ≤ j → j < (srt l).toArray.size → (srt l).toArray[i]! ≤ (srt l).toArray[j]! := by
    intro i j hij hj
    have hj' : j < (srt l).length := by simpa using hj
    rw [getElem!_pos _ i (by simp; omega), getElem!_pos _ j hj]
    simp only [List.getElem_toArray]
    by_cases e : i = j
    · subst e; exact Int.le_refl _
    · exact List.pairwise_iff_getElem.1 hp i j (by omega) hj' (by omega)
  obtain ⟨h1, h2⟩ := upTo_inc (srt l).toArray hd (srt l).length (by simp)
  refine ⟨h1, fun x => ?_⟩
  have h3 : x ∈ cpt l ↔ ∃ j, j < (srt l).length ∧ (srt l).toArray[j]! = x := h2 x
  rw [h3]
  have hm : x ∈ l ↔ x ∈ srt l := by unfold srt; rw [List.mem_mergeSort]
  rw [hm, List.mem_iff_getElem]
  constructor
  · rintro ⟨j, hj, e⟩
    exact ⟨j, hj, by rw [← e, getElem!_pos _ j (by simpa using hj)]; simp⟩
  · rintro ⟨j, hj, e⟩
    exact ⟨j, hj, by rw [getElem!_pos _ j (by simpa using hj)]; simpa using e⟩
theorem cpt_len (l : List Int) : (cpt l).length ≤ l.length := by
  unfold cpt Lib.compact Lib.compactUpTo
  rw [List.length_map]
  refine Nat.le_trans (List.length_filter_le _ _) ?_
  simp [srt]
theorem fitsFrom_inc : ∀ (l : List Int) (last : Int), l.Pairwise (· < ·) → fitsFrom last l = l.all fun x => decide (last < x) && decide (x < 96)
  | [], _, _ => rfl
  | n :: l, last, h => by
    obtain ⟨h1, h2⟩ := List.pairwise_cons.1 h
    rw [fitsFrom, fitsFrom_inc l n h2, List.all_cons, Bool.eq_iff_iff]
    simp only [Bool.and_eq_true, decide_eq_true_eq, List.all_eq_true]
    constructor
    · rintro ⟨⟨a1, a2⟩, a3⟩
      exact ⟨⟨a1, a2⟩, fun x hx => ⟨by have := h1 x hx; omega, (a3 x hx).2⟩⟩
    · rintro ⟨⟨a1, a2⟩, a3⟩
      exact ⟨⟨a1, a2⟩, fun x hx => ⟨h1 x hx, (a3 x hx).2⟩⟩
theorem uptoD_inc (l : List Int) : ∀ n, (uptoD l n).Pairwise (· < ·) ∧ ∀ x, x ∈ uptoD l n ↔ (0 ≤ x ∧ x < n ∧ x ∈ l)
  | 0 => by refine ⟨by simp [uptoD], fun x => ?_⟩; simp [uptoD]; omega
  | n + 1 => by
    obtain ⟨h1, h2⟩ := uptoD_inc l n
    rw [uptoD_succ]
    by_cases hn : (n : Int) ∈ l
    · rw [if_pos hn]
      refine ⟨List.pairwise_append.2 ⟨h1, by simp, fun x hx y hy => ?_⟩, fun x => ?_⟩
      · rw [List.mem_singleton] at hy
        subst hy
        exact ((h2 x).1 hx).2.1
      · rw [List.mem_append, h2, List.mem_singleton]
        constructor
        · rintro (⟨a, b, c⟩ | rfl)
          · exact ⟨a, by omega, c⟩
          · exact ⟨by omega, by omega, hn⟩
        · rintro ⟨a, b, c⟩
          by_cases e : x = n
          · exact .inr e
          · exact .inl ⟨a, by omega, c⟩
    · rw [if_neg hn, List.append_nil]
      refine ⟨h1, fun x => ?_⟩
      rw [h2]
      constructor
      · rintro ⟨a, b, c⟩; exact ⟨a, by omega, c⟩
      · rintro ⟨a, b, c⟩
        refine ⟨a, ?_, c⟩
        by_cases e : x = n
        · subst e; exact absurd c hn
        · omega
theorem cpt_fits (l : List Int) : fitsD (cpt l) = (inD l && decide (l ≠ [])) := by
  obtain ⟨h1, h2⟩ := cpt_inc l
  have hlen : decide (0 < (cpt l).length) = decide (l ≠ []) := by
    rw [decide_eq_decide, List.length_pos_iff]
    constructor
    · rintro h rfl
      apply h
      cases hc : cpt [] with
      | nil => rfl
      | cons x xs => have := (h2 x).1 (by rw [hc]; simp); simp at this
    · rintro h hc
      cases l with
      | nil => exact h rfl
      | cons x xs => have := (h2 x).2 (by simp); rw [hc] at this; simp at this
  unfold fitsD
  rw [fitsFrom_inc _ _ h1, hlen]
  congr 1
  unfold inD
  rw [Bool.eq_iff_iff]
  simp only [List.all_eq_true, Bool.and_eq_true, decide_eq_true_eq]
  constructor
  · intro h x hx
    have := h x ((h2 x).2 hx)
    omega
  · intro h x hx
    have := h x ((h2 x).1 hx)
    omega
theorem cpt_upto (l : List Int) (h : inD l = true) : cpt l = uptoD l 96 := by
  obtain ⟨h1, h2⟩ := cpt_inc l
  obtain ⟨h3, h4⟩ := uptoD_inc l 96
  refine ext_inc _ _ h1 h3 fun x => ?_
  rw [h2, h4]
  constructor
  · intro hx
    have := List.all_eq_true.1 h x hx
    simp at this
    exact ⟨this.1, by omega, hx⟩
  · exact fun h => h.2.2
section
variable (G : VProg)
theorem dDoors (hG : G 10 = some (.code v10)) (hP : G 22 = some (.prim compactPrim))
    (hV : ∀ l : List Int, lim G 24 [.isl 0 1 (iV l)] [] = some (.func 31 [.iptr [.isl 0 1 (iV l)]], []))
    (hS : ∀ l : List Int, l.length < 2 ^ 44 → lim G 23 [.func 31 [.iptr [.isl 0 1 (iV l)]]] [] = some (.xsl 0 1 (iV (srt l)), []))
    (hD : HDoors G) (l : List Int) (hl : l.length < 2 ^ 44) : lim G 10 [.isl 0 1 (iV l)] [] = some (if fitsD (cpt l) then .tup [.xsl 0 1 (iV (cpt l)), .int .i64 0] else .tup [.xsl 0 1 [], .int .i64 31], []) := by
  have hids : (V.func 31 [.iptr [.isl 0 1 (iV l)]]).objIds = [] := rfl
  have g0 := hV l
  have g1 := hS l hl
  have g2 : lim G 22 [.xsl 0 1 (iV (srt l))] [] = some (.xsl 0 1 (iV (cpt l)), []) := by
    refine lim_prim hP ?_
    show (if (iV (srt l)).length ≤ 140737488355328 then (intsOf (intsV (srt l))).map _ else none) = _
    rw [if_pos (by rw [iV_len]; simp [srt]; omega), intsOf_intsV]
    rfl
  have g3 := hD (cpt l) (Nat.lt_of_le_of_lt (cpt_len l) hl)
  obtain ⟨cs, hcs⟩ : ∃ cs, cs = cpt l := ⟨_, rfl⟩
  rw [← hcs] at g2 g3 ⊢
  cases hf : fitsD cs <;> rw [hf] at g3
  · simp only [Bool.false_eq_true, if_false]
    exact lim_fun hG (h := runV hids trivial trivial)
  · simp only [if_true]
    refine lim_fun hG (h := runV hids trivial ?_)
    exact Qe_r (fin_own2b rfl rfl rfl rfl rfl (by simp))
end
end P1
end Go.Vq
