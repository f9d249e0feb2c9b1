/- A machine of values and its tie to the model, and runs of it: part 16 of 18 (no law of Go is stated here). -/
import Derived.Test.YtbbpandancpibaaF15
set_option linter.unusedVariables false
set_option linter.unusedSimpArgs false
set_option linter.unusedSectionVars false
namespace Go.Vq
namespace P1
open Go
set_option maxRecDepth 1000000
set_option maxHeartbeats 8000000
abbrev b15 : VCode := .seq (.region [⟨some 10, .assign (.val (.int .i64 0)), none, 0⟩] false) (.seq (.seq (.region [⟨some 14, .move (.tmp 1), none, 0⟩, ⟨some 15, .bin (.lss) (.tmp 14) (.val (.int .i64 0)), none, 1⟩, ⟨some 16, .move (.tmp 15), none, 3⟩, ⟨some 17, .move (.tmp 1), some (16, false), 7⟩, ⟨some 18, .bin (.geq) (.tmp 17) (.val (.int .i64 2)), some (16, false), 15⟩, ⟨some 19, .pick (.tmp 16) (.val (.bool true)) (.tmp 18), none, 31⟩, ⟨some 20, .move (.tmp 19), none, 63⟩, ⟨some 21, .move (.tmp 2), some (20, false), 127⟩, ⟨some 22, .bin (.lss) (.tmp 21) (.val (.int .u64 1)), some (20, false), 255⟩, ⟨some 23, .pick (.tmp 20) (.val (.bool true)) (.tmp 22), none, 511⟩, ⟨some 24, .move (.tmp 23), none, 1023⟩, ⟨some 25, .move (.tmp 2), some (24, false), 2047⟩, ⟨some 26, .bin (.gtr) (.tmp 25) (.val (.int .u64 1099511627776)), some (24, false), 4095⟩, ⟨some 27, .pick (.tmp 24) (.val (.bool true)) (.tmp 26), none, 8191⟩, ⟨some 28, .move (.tmp 27), none, 16383⟩, ⟨some 29, .move (.tmp 3), some (28, false), 32767⟩, ⟨some 30, .bin (.lss) (.tmp 29) (.val (.int .i64 0)), some (28, false), 65535⟩, ⟨some 31, .pick (.tmp 28) (.val (.bool true)) (.tmp 30), none, 131071⟩, ⟨some 32, .move (.tmp 31), none, 262143⟩, ⟨some 33, .move (.tmp 3), some (32, false), 524287⟩, ⟨some 34, .move (.tmp 0), some (32, false), 524287⟩, ⟨some 35, .call false 28 0 [(.tmp 34)], some (32, false), 1572863⟩, ⟨some 36, .bin (.geq) (.tmp 33) (.tmp 35), some (32, false), 4194303⟩, ⟨some 37, .pick (.tmp 32) (.val (.bool true)) (.tmp 36), none, 8388607⟩, ⟨some 38, .move (.tmp 37), none, 16777215⟩, ⟨some 39, .move (.tmp 4), some (38, false), 33554431⟩, ⟨some 40, .len (.slc 1) (.tmp 39), some (38, false), 67108863⟩, ⟨some 41, .bin (.gtr) (.tmp 40) (.val (.int .i64 48)), some (38, false), 134217727⟩, ⟨some 42, .pick (.tmp 38) (.val (.bool true)) (.tmp 41), none, 268435455⟩] false) (.cond (.tmp 42) (.seq (.region [⟨some 10, .assign (.val (.int .i64 81)), none, 0⟩] false) (.ret)) (.skip))) (.seq (.region [⟨some 11, .alloc 0 (Z8 64), none, 0⟩] false) (.seq (.region [⟨some 43, .slice (.arr 64) (.tmp 11) (some (.val (.int .i64 8))) none none, none, 0⟩, ⟨some 44, .move (.tmp 4), none, 0⟩, ⟨some 45, .copy 1 (.tmp 43) (.tmp 44), none, 3⟩] false) (.seq (.region [⟨some 46, .move (.tmp 2), none, 0⟩, ⟨some 47, .move (.tmp 3), none, 0⟩, ⟨some 48, .call true 50 1 [(.tmp 46), (.tmp 47)], none, 3⟩, ⟨some 12, .assign (.tmp 48), none, 7⟩] false) (.seq (.seq (.region [⟨some 49, .move (.val (.int .i64 0)), none, 0⟩] false) (.block 0 (some [0, 1, 3, 11]) (.loop (some [0, 1, 3, 11, 12, 49]) (.seq (.region [⟨some 50, .bin (.lss) (.tmp 49) (.val (.int .i64 8)), none, 0⟩] false) (.seq (.cond (.tmp 50) (.skip) (.exit 0)) (.seq (.block 1 none (.seq (.region [⟨some 51, .move (.tmp 49), none, 0⟩, ⟨some 13, .assign (.tmp 51), none, 1⟩] false) (.region [⟨some 52, .move (.tmp 13), none, 0⟩, ⟨some 53, .move (.tmp 13), none, 0⟩, ⟨some 54, .bin (.add) (.val (.int .i64 56)) (.tmp 53), none, 2⟩, ⟨some 55, .move (.tmp 12), none, 0⟩, ⟨some 56, .move (.tmp 13), none, 0⟩, ⟨some 57, .bin (.mul) (.val (.int .i64 8)) (.tmp 56), none, 16⟩, ⟨some 58, .bin (.shr) (.tmp 55) (.tmp 57), none, 56⟩, ⟨some 59, .conv (.int (.u8)) (.tmp 58), none, 120⟩, ⟨some 60, .move (.tmp 12), none, 0⟩, ⟨some 61, .move (.tmp 13), none, 0⟩, ⟨some 62, .bin (.mul) (.val (.int .i64 8)) (.tmp 61), none, 512⟩, ⟨some 63, .bin (.shr) (.tmp 60) (.tmp 62), none, 1792⟩, ⟨some 64, .conv (.int (.u8)) (.tmp 63), none, 3840⟩, ⟨some 65, .indexAddr (some 64) 1 (.tmp 11) (.tmp 52), none, 249⟩, ⟨none, .store 1 (.tmp 65) (.tmp 59), none, 8441⟩, ⟨some 66, .indexAddr (some 64) 1 (.tmp 11) (.tmp 54), none, 32767⟩, ⟨none, .store 1 (.tmp 66) (.tmp 64), none, 65535⟩] true))) (.region [⟨some 67, .bin (.add) (.tmp 49) (.val (.int .i64 1)), none, 0⟩, ⟨some 49, .move (.tmp 67), none, 1⟩] false))))))) (.seq (.region [⟨some 68, .move (.tmp 0), none, 0⟩, ⟨some 69, .move (.tmp 1), none, 0⟩, ⟨some 70, .move (.tmp 0), none, 0⟩, ⟨some 71, .call false 28 1 [(.tmp 70)], none, 4⟩, ⟨some 72, .bin (.mul) (.tmp 69) (.tmp 71), none, 14⟩, ⟨some 73, .move (.tmp 3), none, 0⟩, ⟨some 74, .bin (.add) (.tmp 72) (.tmp 73), none, 62⟩, ⟨some 75, .load true 64 (.tmp 11), none, 0⟩, ⟨some 76, .call false 25 1 [(.tmp 68), (.tmp 74), (.tmp 75)], none, 255⟩, ⟨some 10, .assign (.tmp 76), none, 511⟩] true) (.ret)))))))
abbrev v15 : VFunc := { nparams := 5, ntmps := 77, nsites := 1, results := [.tmp 10], body := b15 }
def le8 (n : Nat) : List Nat := [n % 256, n / 256 % 256, n / 65536 % 256, n / 16777216 % 256, n / 4294967296 % 256, n / 1099511627776 % 256, n / 281474976710656 % 256, n / 72057594037927936 % 256]
def pad48 (l : List Nat) : List Nat := l ++ List.replicate (48 - l.length) 0
def hd8 (n i : Nat) : List Nat := (le8 n).take i ++ List.replicate (8 - i) 0
def cellM (n : Nat) (l : List Nat) : List Nat := le8 n ++ (pad48 l ++ le8 n)
theorem pad48_len {l : List Nat} (h : l.length ≤ 48) : (pad48 l).length = 48 := by simp [pad48]; omega
theorem hd8_set (n i : Nat) (h : i < 8) : (hd8 n i).set i (n / 2 ^ (8 * i) % 256) = hd8 n (i + 1) := by
  rcases (by omega : i = 0 ∨ i = 1 ∨ i = 2 ∨ i = 3 ∨ i = 4 ∨ i = 5 ∨ i = 6 ∨ i = 7) with rfl | rfl | rfl | rfl | rfl | rfl | rfl | rfl <;> simp [hd8, le8, List.replicate]
theorem hd8_len (n i : Nat) (h : i ≤ 8) : (hd8 n i).length = 8 := by simp [hd8, le8]; omega
def cPu (n : Nat) (l : List Nat) (i : Nat) : List Nat := hd8 n i ++ (pad48 l ++ hd8 n i)
theorem cPu_len {n : Nat} {l : List Nat} (h : l.length ≤ 48) {i : Nat} (hi : i ≤ 8) : (cPu n l i).length = 64 := by simp [cPu, hd8_len n i hi, pad48_len h]
def SPu (sd a n : Nat) (inner : List Nat) (es : List (List Nat)) (fz : Bool) (ls : List (Nat × List Nat)) (off : Bool) (left : Int) (i : Nat) : St :=
  ⟨(q0 :: .int .i64 sd :: .gone 0 :: .int .i64 a :: .gone 0 :: .gone 0 :: .gone 0 :: .gone 0 :: .gone 0 :: .gone 0 :: .gone 0 :: .ptr (.obj 1 0) :: .int .u64 n :: .gone 0 :: .gone 0 :: .gone 0 :: .gone 0 :: .gone 0 :: .gone 0 :: .gone 0 :: .gone 0 :: .gone 0 :: .gone 0 :: .gone 0 :: .gone 0 :: .gone 0 :: .gone 0 :: .gone 0 :: .gone 0 :: .gone 0 :: .gone 0 :: .gone 0 :: .gone 0 :: .gone 0 :: .gone 0 :: .gone 0 :: .gone 0 :: .gone 0 :: .gone 0 :: .gone 0 :: .gone 0 :: .gone 0 :: .gone 0 :: .gone 0 :: .gone 0 :: .gone 0 :: .gone 0 :: .gone 0 :: .gone 0 :: .int .i64 i :: .gone 0 :: .gone 0 :: .gone 0 :: .gone 0 :: .gone 0 :: .gone 0 :: .gone 0 :: .gone 0 :: .gone 0 :: .gone 0 :: .gone 0 :: .gone 0 :: .gone 0 :: .gone 0 :: .gone 0 :: .gone 0 :: .gone 0 :: .gone 0 :: .gone 0 :: .gone 0 :: .gone 0 :: .gone 0 :: .gone 0 :: .gone 0 :: .gone 0 :: .gone 0 :: .gone 0 :: []), [some (plateO es fz ls off left), some (.cells (byN (cPu n inner i)))]⟩
def bodyPu : VCode := (.seq (.region [⟨some 50, .bin (.lss) (.tmp 49) (.val (.int .i64 8)), none, 0⟩] false) (.seq (.cond (.tmp 50) (.skip) (.exit 0)) (.seq (.block 1 none (.seq (.region [⟨some 51, .move (.tmp 49), none, 0⟩, ⟨some 13, .assign (.tmp 51), none, 1⟩] false) (.region [⟨some 52, .move (.tmp 13), none, 0⟩, ⟨some 53, .move (.tmp 13), none, 0⟩, ⟨some 54, .bin (.add) (.val (.int .i64 56)) (.tmp 53), none, 2⟩, ⟨some 55, .move (.tmp 12), none, 0⟩, ⟨some 56, .move (.tmp 13), none, 0⟩, ⟨some 57, .bin (.mul) (.val (.int .i64 8)) (.tmp 56), none, 16⟩, ⟨some 58, .bin (.shr) (.tmp 55) (.tmp 57), none, 56⟩, ⟨some 59, .conv (.int (.u8)) (.tmp 58), none, 120⟩, ⟨some 60, .move (.tmp 12), none, 0⟩, ⟨some 61, .move (.tmp 13), none, 0⟩, ⟨some 62, .bin (.mul) (.val (.int .i64 8)) (.tmp 61), none, 512⟩, ⟨some 63, .bin (.shr) (.tmp 60) (.tmp 62), none, 1792⟩, ⟨some 64, .conv (.int (.u8)) (.tmp 63), none, 3840⟩, ⟨some 65, .indexAddr (some 64) 1 (.tmp 11) (.tmp 52), none, 249⟩, ⟨none, .store 1 (.tmp 65) (.tmp 59), none, 8441⟩, ⟨some 66, .indexAddr (some 64) 1 (.tmp 11) (.tmp 54), none, 32767⟩, ⟨none, .store 1 (.tmp 66) (.tmp 64), none, 65535⟩] true))) (.region [⟨some 67, .bin (.add) (.tmp 49) (.val (.int .i64 1)), none, 0⟩, ⟨some 49, .move (.tmp 67), none, 1⟩] false))))
theorem cPu_step (n : Nat) (l : List Nat) (h : l.length ≤ 48) (i : Nat) (hi : i < 8) : ((cPu n l i).set i (n / 2 ^ (8 * i) % 256)).set (56 + i) (n / 2 ^ (8 * i) % 256) = cPu n l (i + 1) := by
  have h1 := hd8_len n i (by omega)
  have h2 := pad48_len h
  have h3 := hd8_set n i hi
  unfold cPu
  rw [List.set_append_left _ _ (by omega), h3, List.set_append_right _ _ (by rw [hd8_len n (i + 1) (by omega)]; omega), hd8_len n (i + 1) (by omega), List.set_append_right _ _ (by omega), h2, show 56 + i - 8 - 48 = i by omega, h3]
theorem byN_one {c : List Nat} {i : Nat} (h : i < c.length) : List.take 1 (List.drop i (byN c)) = [V.int .u8 ((c.getD i 0 : Nat) : Int)] := by
  rw [List.drop_eq_getElem_cons (by rw [byN_len]; exact h)]
  simp [byN, h]
theorem byN_set (l : List Nat) (i x : Nat) (h : i < l.length) : byN (List.take i l) ++ [V.int .u8 (x : Int)] ++ List.drop (i + 1) (byN l) = byN (l.set i x) := by
  rw [List.set_eq_take_append_cons_drop, if_pos h, byN_app, byN_cons, byN_drop, List.append_assoc]; rfl
section
variable (G : VProg)
theorem put_round (sd a n : Nat) (hn64 : n < 2 ^ 64) (inner : List Nat) (h48 : inner.length ≤ 48) (es fz ls off left) (i : Nat) (hi : i < 8) (Q : Out → St → Prop) (J : Nat → Prop) (hj : J (i + 1)) :
    WL G 1 bodyPu (SPu sd a n inner es fz ls off left i) (Qrnd (some [0, 1, 3, 11, 12, 49]) 1 (SPu sd a n inner es fz ls off left) J Q) := by
  have g1 : decide ((i : Int) < 8) = true := by simp; omega
  have g2 := inc64 i (by omega)
  have g6 : IntKind.i64.wrap (8 * (i : Int)) = ((8 * i : Nat) : Int) := by rw [wrapi64 _ (by omega) (by omega)]; omega
  have g9 : IntKind.i64.wrap (56 + (i : Int)) = ((56 + i : Nat) : Int) := by rw [wrapi64 _ (by omega) (by omega)]; omega
  have g7 : (n : Int).fdiv (2 ^ min (8 * i) IntKind.u64.bits) = ((n / 2 ^ (8 * i) : Nat) : Int) := by
    have e1 : min (8 * i) IntKind.u64.bits = 8 * i := Nat.min_eq_left (by show 8 * i ≤ 64; omega)
    rw [e1, Int.fdiv_eq_ediv_of_nonneg _ (by exact Int.le_of_lt (Int.pow_pos (by decide)))]
    rw [show (2 : Int) ^ (8 * i) = ((2 ^ (8 * i) : Nat) : Int) by rw [Int.natCast_pow]; rfl]
    rfl
  have g8 := wrap8m (n / 2 ^ (8 * i))
  have hst := cPu_step n inner h48 i hi
  have hl0 := cPu_len (n := n) h48 (show i ≤ 8 by omega)
  obtain ⟨c, hc⟩ : ∃ c, c = cPu n inner i := ⟨_, rfl⟩
  obtain ⟨c2, hc2⟩ : ∃ c, c = cPu n inner (i + 1) := ⟨_, rfl⟩
  obtain ⟨b, hb⟩ : ∃ b, b = n / 2 ^ (8 * i) % 256 := ⟨_, rfl⟩
  have hl2 : c2.length = 64 := by rw [hc2]; exact cPu_len h48 (by omega)
  rw [← hc, ← hb, ← hc2] at hst
  rw [← hc] at hl0
  rw [← hb] at g8
  have e1 := byN_set c i b (by omega)
  have e2 := byN_set (c.set i b) (56 + i) b (by simp; omega)
  rw [hst] at e2
  obtain ⟨c1, hc1⟩ : ∃ c1, c1 = c.set i b := ⟨_, rfl⟩
  have hl1 : c1.length = 64 := by rw [hc1]; simp; omega
  rw [← hc1] at e1 e2
  have d1 : List.take 1 (List.drop i (byN c)) = [V.int .u8 ((c.getD i 0 : Nat) : Int)] := by exact byN_one (by omega)
  have d2 : List.take 1 (List.drop (56 + i) (byN c1)) = [V.int .u8 ((c1.getD (56 + i) 0 : Nat) : Int)] := by exact byN_one (by omega)
  unfold SPu bodyPu
  rw [← hc]
  cases fz
  all_goals
    refine runV (And.intro g1 (And.intro g2 (And.intro g6 (And.intro g7 (And.intro g8 (And.intro g9 (And.intro e1 (And.intro e2 (And.intro hl0 (And.intro hl1 Nat.mul_one)))))))))) (And.intro d1 d2) ?_
    refine Qr_n (i + 1) ?_ hj
    simp only [← hc2]
    clear e2 hst hc2
    obtain ⟨g, rfl⟩ := exN hl2
    kernel_rfl
theorem mput (hG : G 15 = some (.code v15)) (hR : ∀ es fz ls off left, es.length < 2 ^ 40 → lim G 28 [q0] [plateO es fz ls off left] = some (.int .i64 ((es.length / 2 : Nat) : Int), [plateO es fz ls off left]))
    (hM : ∀ r a : Nat, r ≤ 2 ^ 40 → a < 2 ^ 30 → lim G 50 [.int .u64 r, .int .i64 a] [] = some (.int .u64 (mkN r a : Nat), []))
    (hP : ∀ (i : Int) (c : List Nat) (_ : c.length = 64) es fz ls off left (_ : (ls.length + 1) * 72 ≤ 140737488355328) (_ : LR left),
    lim G 25 [q0, .int .i64 i, cellV c] [plateO es fz ls off left] = if inR i es.length then (if spO off left then some (.int .i64 72, [plateO es fz ls true left]) else some (.int .i64 0, [plateO es fz (ls ++ [(i.toNat, c)]) false (spL off left)])) else some (.int .i64 71, [plateO es fz ls off left]))
    (side : Int) (r : Nat) (at' : Int) (inner : List Nat) (es fz ls off left) (hn : es.length ≤ 4096) (hl : LR left) (hb : (ls.length + 1) * 72 ≤ 140737488355328) (hr : r < 2 ^ 64) :
    lim G 15 [q0, .int .i64 side, .int .u64 r, .int .i64 at', .isl 0 1 (byN inner)] [plateO es fz ls off left] =
      if 0 ≤ side ∧ side < 2 ∧ 1 ≤ r ∧ r ≤ 1099511627776 ∧ 0 ≤ at' ∧ at' < (es.length / 2 : Nat) ∧ inner.length ≤ 48 then
        (if spO off left then some (.int .i64 72, [plateO es fz ls true left]) else some (.int .i64 0, [plateO es fz (ls ++ [((side.toNat * (es.length / 2) + at'.toNat), cellM (mkN r at'.toNat) inner)]) false (spL off left)]))
      else some (.int .i64 81, [plateO es fz ls off left]) := by
  have g1 := hR es fz ls off left (by omega)
  cases b1 : decide (side < 0)
  case true =>
    simp at b1
    rw [if_neg (by omega)]
    have b1 : decide (side < 0) = true := by simp; omega
    cases fz
    all_goals exact lim_fun hG (h := runV b1 trivial trivial)
  cases b2 : decide (2 ≤ side)
  case true =>
    simp at b2
    rw [if_neg (by omega)]
    have b2 : decide (2 ≤ side) = true := by simp; omega
    cases fz
    all_goals exact lim_fun hG (h := runV (And.intro b1 b2) trivial trivial)
  cases b3 : decide ((r : Int) < 1)
  case true =>
    simp at b3
    rw [if_neg (by omega)]
    have b3 : decide ((r : Int) < 1) = true := by simp; omega
    cases fz
    all_goals exact lim_fun hG (h := runV (And.intro b1 (And.intro b2 b3)) trivial trivial)
  cases b4 : decide ((1099511627776 : Int) < (r : Int))
  case true =>
    simp at b4
    rw [if_neg (by omega)]
    have b4 : decide ((1099511627776 : Int) < (r : Int)) = true := by simp; omega
    cases fz
    all_goals exact lim_fun hG (h := runV (And.intro b1 (And.intro b2 (And.intro b3 b4))) trivial trivial)
  cases b5 : decide (at' < 0)
  case true =>
    simp at b5
    rw [if_neg (by omega)]
    have b5 : decide (at' < 0) = true := by simp; omega
    cases fz
    all_goals exact lim_fun hG (h := runV (And.intro b1 (And.intro b2 (And.intro b3 (And.intro b4 b5)))) trivial trivial)
  cases b6 : decide (((es.length / 2 : Nat) : Int) ≤ at')
  case true =>
    simp only [decide_eq_true_eq] at b6
    rw [if_neg (by omega)]
    have b6 : decide (((es.length / 2 : Nat) : Int) ≤ at') = true := by simp only [decide_eq_true_eq]; omega
    cases fz
    all_goals exact lim_fun hG (h := runV (And.intro b1 (And.intro b2 (And.intro b3 (And.intro b4 (And.intro b5 b6))))) trivial trivial)
  cases b7 : decide ((48 : Int) < (inner.length : Int))
  case true =>
    simp only [decide_eq_true_eq] at b7
    rw [if_neg (by omega)]
    have b7 : decide ((48 : Int) < (inner.length : Int)) = true := by simp only [decide_eq_true_eq]; omega
    cases fz
    all_goals exact lim_fun hG (h := runV (And.intro b1 (And.intro b2 (And.intro b3 (And.intro b4 (And.intro b5 (And.intro b6 b7)))))) trivial trivial)
  have k1 : ¬ side < 0 := by simpa using b1
  have k2 : ¬ 2 ≤ side := by simpa using b2
  have k3 : ¬ (r : Int) < 1 := by simpa only [decide_eq_false_iff_not] using b3
  have k4 : ¬ (1099511627776 : Int) < (r : Int) := by simpa only [decide_eq_false_iff_not] using b4
  have k5 : ¬ at' < 0 := by simpa using b5
  have k6 : ¬ ((es.length / 2 : Nat) : Int) ≤ at' := by simpa only [decide_eq_false_iff_not] using b6
  have k7 : ¬ (48 : Int) < (inner.length : Int) := by simpa only [decide_eq_false_iff_not] using b7
  rw [if_pos (by omega)]
  have F := And.intro b1 (And.intro b2 (And.intro b3 (And.intro b4 (And.intro b5 (And.intro b6 b7)))))
  obtain ⟨a, rfl⟩ : ∃ a : Nat, at' = a := ⟨at'.toNat, by omega⟩
  have g2 := hM r a (by omega) (by omega)
  simp only [Int.toNat_natCast]
  obtain ⟨n, hn2⟩ : ∃ n, n = mkN r a := ⟨_, rfl⟩
  rw [← hn2] at g2 ⊢
  have hc : (cellM n inner).length = 64 := by simp [cellM, le8, pad48_len (show inner.length ≤ 48 by omega)]
  obtain ⟨sd, rfl⟩ : ∃ sd : Nat, side = sd := ⟨side.toNat, by omega⟩
  simp only [Int.toNat_natCast]
  obtain ⟨i, hi⟩ : ∃ i, i = sd * (es.length / 2) := ⟨_, rfl⟩
  have hi2 : i + a < es.length := by
    have : sd = 0 ∨ sd = 1 := by omega
    rcases this with rfl | rfl <;> omega
  have m1 : IntKind.i64.wrap ((sd : Int) * ((es.length / 2 : Nat) : Int)) = (i : Int) := by
    have : (sd : Int) * ((es.length / 2 : Nat) : Int) = (i : Int) := by rw [hi, Int.natCast_mul]
    rw [this]; exact wrapi64 _ (by omega) (by omega)
  have m2 : IntKind.i64.wrap ((i : Int) + (a : Int)) = ((i + a : Nat) : Int) := wrapi64 ((i + a : Nat) : Int) (by omega) (by omega)
  rw [← hi]
  have hin : inR ((i + a : Nat) : Int) es.length = true := by simp only [inR, Bool.and_eq_true, decide_eq_true_eq]; omega
  have g3 := hP ((i + a : Nat) : Int) (cellM n inner) hc es fz ls off left hb hl
  rw [hin] at g3
  simp only [if_true, Int.toNat_natCast] at g3
  obtain ⟨x, ls', off', left', hx⟩ : ∃ x ls' off' left', (if spO off left then some (V.int .i64 72, [plateO es fz ls true left]) else some (.int .i64 0, [plateO es fz (ls ++ [((i + a), cellM n inner)]) false (spL off left)])) = some (.int .i64 x, [plateO es fz ls' off' left']) := by
    cases spO off left
    · exact ⟨_, _, _, _, rfl⟩
    · exact ⟨_, _, _, _, rfl⟩
  rw [hx] at g3 ⊢
  have hmin : Nat.min inner.length 56 = inner.length := Nat.min_eq_left (by omega)
  obtain ⟨p, hz, hp⟩ : ∃ p : Prop, (inner.length = 0) = p ∧ (p = True ∨ p = False) := by
    by_cases h : inner.length = 0
    · exact ⟨True, by simp [h], .inl rfl⟩
    · exact ⟨False, by simp [h], .inr rfl⟩
  have h8 : (cPu n inner 0).length = 64 := cPu_len (by omega) (by omega)
  have h56 : 8 + inner.length ≤ 64 := by omega
  obtain ⟨c0, hc0⟩ : ∃ c0, c0 = cPu n inner 0 := ⟨_, rfl⟩
  have e0 : List.replicate (min 8 64) (V.int .u8 0) ++ byN inner ++ List.replicate (64 - (8 + inner.length)) (V.int .u8 0) = byN c0 := by
    rw [hc0]
    unfold cPu hd8 pad48
    simp only [List.take_zero, List.nil_append, Nat.sub_zero, byN_app, byN_rep, List.append_assoc]
    rw [show min 8 64 = 8 from rfl]
    congr 2
    rw [← byN_app, List.replicate_append_replicate]
    congr 2
    omega
  have hn64 : n < 2 ^ 64 := by rw [hn2]; unfold mkN; omega
  have hc8 : cPu n inner 8 = cellM n inner := rfl
  have h48 : inner.length ≤ 48 := by omega
  rw [← hc0] at h8
  obtain ⟨cc, hcc⟩ : ∃ cc, cc = cellM n inner := ⟨_, rfl⟩
  rw [← hcc] at hc8 hc g3
  rcases hp with rfl | rfl
  · cases fz
    case false =>
      refine lim_fun hG (h := runV (And.intro e0 (And.intro hmin F)) hz ?_)
      refine WL_loop (SPu sd a n inner es false ls off left) (fun i => i ≤ 8) (fun i => 8 - i) ?_ 0 _ (Nat.zero_le _) ?_
      · intro k hk
        by_cases hk8 : k < 8
        · exact put_round G sd a n hn64 inner h48 es false ls off left k hk8 _ _ ⟨by omega, by omega⟩
        · obtain rfl : k = 8 := by omega
          unfold SPu
          rw [hc8]
          refine runV trivial trivial ?_
          refine Qr_x ?_
          refine Qb_x (σ1 := ⟨(q0 :: .int .i64 sd :: .gone 0 :: .int .i64 a :: .gone 0 :: .gone 0 :: .gone 0 :: .gone 0 :: .gone 0 :: .gone 0 :: .gone 0 :: .ptr (.obj 1 0) :: .gone 0 :: .gone 0 :: .gone 0 :: .gone 0 :: .gone 0 :: .gone 0 :: .gone 0 :: .gone 0 :: .gone 0 :: .gone 0 :: .gone 0 :: .gone 0 :: .gone 0 :: .gone 0 :: .gone 0 :: .gone 0 :: .gone 0 :: .gone 0 :: .gone 0 :: .gone 0 :: .gone 0 :: .gone 0 :: .gone 0 :: .gone 0 :: .gone 0 :: .gone 0 :: .gone 0 :: .gone 0 :: .gone 0 :: .gone 0 :: .gone 0 :: .gone 0 :: .gone 0 :: .gone 0 :: .gone 0 :: .gone 0 :: .gone 0 :: .gone 0 :: .gone 0 :: .gone 0 :: .gone 0 :: .gone 0 :: .gone 0 :: .gone 0 :: .gone 0 :: .gone 0 :: .gone 0 :: .gone 0 :: .gone 0 :: .gone 0 :: .gone 0 :: .gone 0 :: .gone 0 :: .gone 0 :: .gone 0 :: .gone 0 :: .gone 0 :: .gone 0 :: .gone 0 :: .gone 0 :: .gone 0 :: .gone 0 :: .gone 0 :: .gone 0 :: .gone 0 :: []), [some (plateO es false ls off left), some (.cells (byN cc))]⟩) ?_ ?_
          · clear g3 hcc hc8
            obtain ⟨g, rfl⟩ := exN hc
            kernel_rfl
          · exact runV (And.intro m1 (And.intro m2 (cf hc))) trivial trivial
      · obtain rfl : inner = [] := List.eq_nil_of_length_eq_zero (by rw [hz]; trivial)
        unfold SPu
        kernel_rfl
    case true =>
      refine lim_fun hG (h := runV (And.intro e0 (And.intro hmin F)) hz ?_)
      refine WL_loop (SPu sd a n inner es true ls off left) (fun i => i ≤ 8) (fun i => 8 - i) ?_ 0 _ (Nat.zero_le _) ?_
      · intro k hk
        by_cases hk8 : k < 8
        · exact put_round G sd a n hn64 inner h48 es true ls off left k hk8 _ _ ⟨by omega, by omega⟩
        · obtain rfl : k = 8 := by omega
          unfold SPu
          rw [hc8]
          refine runV trivial trivial ?_
          refine Qr_x ?_
          refine Qb_x (σ1 := ⟨(q0 :: .int .i64 sd :: .gone 0 :: .int .i64 a :: .gone 0 :: .gone 0 :: .gone 0 :: .gone 0 :: .gone 0 :: .gone 0 :: .gone 0 :: .ptr (.obj 1 0) :: .gone 0 :: .gone 0 :: .gone 0 :: .gone 0 :: .gone 0 :: .gone 0 :: .gone 0 :: .gone 0 :: .gone 0 :: .gone 0 :: .gone 0 :: .gone 0 :: .gone 0 :: .gone 0 :: .gone 0 :: .gone 0 :: .gone 0 :: .gone 0 :: .gone 0 :: .gone 0 :: .gone 0 :: .gone 0 :: .gone 0 :: .gone 0 :: .gone 0 :: .gone 0 :: .gone 0 :: .gone 0 :: .gone 0 :: .gone 0 :: .gone 0 :: .gone 0 :: .gone 0 :: .gone 0 :: .gone 0 :: .gone 0 :: .gone 0 :: .gone 0 :: .gone 0 :: .gone 0 :: .gone 0 :: .gone 0 :: .gone 0 :: .gone 0 :: .gone 0 :: .gone 0 :: .gone 0 :: .gone 0 :: .gone 0 :: .gone 0 :: .gone 0 :: .gone 0 :: .gone 0 :: .gone 0 :: .gone 0 :: .gone 0 :: .gone 0 :: .gone 0 :: .gone 0 :: .gone 0 :: .gone 0 :: .gone 0 :: .gone 0 :: .gone 0 :: .gone 0 :: []), [some (plateO es true ls off left), some (.cells (byN cc))]⟩) ?_ ?_
          · clear g3 hcc hc8
            obtain ⟨g, rfl⟩ := exN hc
            kernel_rfl
          · exact runV (And.intro m1 (And.intro m2 (cf hc))) trivial trivial
      · obtain rfl : inner = [] := List.eq_nil_of_length_eq_zero (by rw [hz]; trivial)
        unfold SPu
        kernel_rfl
  · cases fz
    case false =>
      refine lim_fun hG (h := runV (And.intro e0 (And.intro hmin F)) hz ?_)
      refine WL_loop (SPu sd a n inner es false ls off left) (fun i => i ≤ 8) (fun i => 8 - i) ?_ 0 _ (Nat.zero_le _) ?_
      · intro k hk
        by_cases hk8 : k < 8
        · exact put_round G sd a n hn64 inner h48 es false ls off left k hk8 _ _ ⟨by omega, by omega⟩
        · obtain rfl : k = 8 := by omega
          unfold SPu
          rw [hc8]
          refine runV trivial trivial ?_
          refine Qr_x ?_
          refine Qb_x (σ1 := ⟨(q0 :: .int .i64 sd :: .gone 0 :: .int .i64 a :: .gone 0 :: .gone 0 :: .gone 0 :: .gone 0 :: .gone 0 :: .gone 0 :: .gone 0 :: .ptr (.obj 1 0) :: .gone 0 :: .gone 0 :: .gone 0 :: .gone 0 :: .gone 0 :: .gone 0 :: .gone 0 :: .gone 0 :: .gone 0 :: .gone 0 :: .gone 0 :: .gone 0 :: .gone 0 :: .gone 0 :: .gone 0 :: .gone 0 :: .gone 0 :: .gone 0 :: .gone 0 :: .gone 0 :: .gone 0 :: .gone 0 :: .gone 0 :: .gone 0 :: .gone 0 :: .gone 0 :: .gone 0 :: .gone 0 :: .gone 0 :: .gone 0 :: .gone 0 :: .gone 0 :: .gone 0 :: .gone 0 :: .gone 0 :: .gone 0 :: .gone 0 :: .gone 0 :: .gone 0 :: .gone 0 :: .gone 0 :: .gone 0 :: .gone 0 :: .gone 0 :: .gone 0 :: .gone 0 :: .gone 0 :: .gone 0 :: .gone 0 :: .gone 0 :: .gone 0 :: .gone 0 :: .gone 0 :: .gone 0 :: .gone 0 :: .gone 0 :: .gone 0 :: .gone 0 :: .gone 0 :: .gone 0 :: .gone 0 :: .gone 0 :: .gone 0 :: .gone 0 :: .gone 0 :: []), [some (plateO es false ls off left), some (.cells (byN cc))]⟩) ?_ ?_
          · clear g3 hcc hc8
            obtain ⟨g, rfl⟩ := exN hc
            kernel_rfl
          · exact runV (And.intro m1 (And.intro m2 (cf hc))) trivial trivial
      · unfold SPu
        simp only [← hc0]
        clear e0 hc0
        obtain ⟨g, rfl⟩ := exN h8
        kernel_rfl
    case true =>
      refine lim_fun hG (h := runV (And.intro e0 (And.intro hmin F)) hz ?_)
      refine WL_loop (SPu sd a n inner es true ls off left) (fun i => i ≤ 8) (fun i => 8 - i) ?_ 0 _ (Nat.zero_le _) ?_
      · intro k hk
        by_cases hk8 : k < 8
        · exact put_round G sd a n hn64 inner h48 es true ls off left k hk8 _ _ ⟨by omega, by omega⟩
        · obtain rfl : k = 8 := by omega
          unfold SPu
          rw [hc8]
          refine runV trivial trivial ?_
          refine Qr_x ?_
          refine Qb_x (σ1 := ⟨(q0 :: .int .i64 sd :: .gone 0 :: .int .i64 a :: .gone 0 :: .gone 0 :: .gone 0 :: .gone 0 :: .gone 0 :: .gone 0 :: .gone 0 :: .ptr (.obj 1 0) :: .gone 0 :: .gone 0 :: .gone 0 :: .gone 0 :: .gone 0 :: .gone 0 :: .gone 0 :: .gone 0 :: .gone 0 :: .gone 0 :: .gone 0 :: .gone 0 :: .gone 0 :: .gone 0 :: .gone 0 :: .gone 0 :: .gone 0 :: .gone 0 :: .gone 0 :: .gone 0 :: .gone 0 :: .gone 0 :: .gone 0 :: .gone 0 :: .gone 0 :: .gone 0 :: .gone 0 :: .gone 0 :: .gone 0 :: .gone 0 :: .gone 0 :: .gone 0 :: .gone 0 :: .gone 0 :: .gone 0 :: .gone 0 :: .gone 0 :: .gone 0 :: .gone 0 :: .gone 0 :: .gone 0 :: .gone 0 :: .gone 0 :: .gone 0 :: .gone 0 :: .gone 0 :: .gone 0 :: .gone 0 :: .gone 0 :: .gone 0 :: .gone 0 :: .gone 0 :: .gone 0 :: .gone 0 :: .gone 0 :: .gone 0 :: .gone 0 :: .gone 0 :: .gone 0 :: .gone 0 :: .gone 0 :: .gone 0 :: .gone 0 :: .gone 0 :: .gone 0 :: []), [some (plateO es true ls off left), some (.cells (byN cc))]⟩) ?_ ?_
          · clear g3 hcc hc8
            obtain ⟨g, rfl⟩ := exN hc
            kernel_rfl
          · exact runV (And.intro m1 (And.intro m2 (cf hc))) trivial trivial
      · unfold SPu
        simp only [← hc0]
        clear e0 hc0
        obtain ⟨g, rfl⟩ := exN h8
        kernel_rfl
end
end P1
end Go.Vq
namespace Go.Vq
namespace P1
open Go
set_option maxRecDepth 1000000
set_option maxHeartbeats 8000000
abbrev b14 : VCode := .seq (.region [⟨some 4, .assign (.val (.int .u64 0)), none, 0⟩, ⟨some 5, .assign (.val (.nilS 1)), none, 1⟩] false) (.seq (.seq (.region [⟨some 11, .move (.tmp 1), none, 0⟩, ⟨some 12, .bin (.lss) (.tmp 11) (.val (.int .i64 0)), none, 1⟩, ⟨some 13, .move (.tmp 12), none, 3⟩, ⟨some 14, .move (.tmp 1), some (13, false), 7⟩, ⟨some 15, .bin (.geq) (.tmp 14) (.val (.int .i64 2)), some (13, false), 15⟩, ⟨some 16, .pick (.tmp 13) (.val (.bool true)) (.tmp 15), none, 31⟩, ⟨some 17, .move (.tmp 16), none, 63⟩, ⟨some 18, .move (.tmp 0), some (17, false), 127⟩, ⟨some 19, .call false 28 0 [(.tmp 18)], some (17, false), 255⟩, ⟨some 20, .eq false (.num) (.tmp 19) (.val (.int .i64 0)), some (17, false), 511⟩, ⟨some 21, .pick (.tmp 17) (.val (.bool true)) (.tmp 20), none, 1023⟩] false) (.cond (.tmp 21) (.seq (.region [⟨some 4, .assign (.val (.int .u64 0)), none, 0⟩, ⟨some 5, .assign (.val (.nilS 1)), none, 1⟩] false) (.ret)) (.skip))) (.seq (.region [⟨some 22, .move (.tmp 0), none, 0⟩, ⟨some 23, .move (.tmp 1), none, 0⟩, ⟨some 24, .call false 49 0 [(.tmp 22), (.tmp 23), (.val (.int .i64 0))], none, 3⟩, ⟨some 25, .call true 48 0 [(.tmp 24)], none, 7⟩, ⟨some 6, .assign (.tmp 25), none, 15⟩] false) (.seq (.region [⟨some 26, .move (.tmp 6), none, 0⟩, ⟨some 27, .bin (.shr) (.tmp 26) (.val (.int .u64 16)), none, 1⟩, ⟨some 7, .assign (.tmp 27), none, 3⟩] false) (.seq (.seq (.region [⟨some 28, .move (.tmp 7), none, 0⟩, ⟨some 29, .bin (.lss) (.tmp 28) (.val (.int .u64 1)), none, 1⟩, ⟨some 30, .move (.tmp 29), none, 3⟩, ⟨some 31, .move (.tmp 7), some (30, false), 7⟩, ⟨some 32, .bin (.gtr) (.tmp 31) (.val (.int .u64 1099511627776)), some (30, false), 15⟩, ⟨some 33, .pick (.tmp 30) (.val (.bool true)) (.tmp 32), none, 31⟩, ⟨some 34, .move (.tmp 33), none, 63⟩, ⟨some 35, .move (.tmp 6), some (34, false), 127⟩, ⟨some 36, .move (.tmp 7), some (34, false), 127⟩, ⟨some 37, .call true 50 0 [(.tmp 36), (.val (.int .i64 0))], some (34, false), 383⟩, ⟨some 38, .eq true (.num) (.tmp 35) (.tmp 37), some (34, false), 1023⟩, ⟨some 39, .pick (.tmp 34) (.val (.bool true)) (.tmp 38), none, 2047⟩] false) (.cond (.tmp 39) (.seq (.region [⟨some 4, .assign (.val (.int .u64 0)), none, 0⟩, ⟨some 5, .assign (.val (.nilS 1)), none, 1⟩] false) (.ret)) (.skip))) (.seq (.region [⟨some 8, .assign (.val (.nilS 1)), none, 0⟩] false) (.seq (.seq (.region [⟨some 40, .move (.tmp 0), none, 0⟩, ⟨some 41, .call false 28 0 [(.tmp 40)], none, 1⟩, ⟨some 42, .move (.val (.int .i64 0)), none, 0⟩] false) (.block 0 (some [7, 8]) (.loop (some [0, 1, 7, 8, 41, 42]) (.seq (.region [⟨some 43, .bin (.lss) (.tmp 42) (.tmp 41), none, 0⟩] false) (.seq (.cond (.tmp 43) (.skip) (.exit 0)) (.seq (.block 1 none (.seq (.region [⟨some 44, .move (.tmp 42), none, 0⟩, ⟨some 9, .assign (.tmp 44), none, 1⟩] false) (.seq (.region [⟨some 45, .move (.tmp 0), none, 0⟩, ⟨some 46, .move (.tmp 1), none, 0⟩, ⟨some 47, .move (.tmp 9), none, 0⟩, ⟨some 48, .call false 49 0 [(.tmp 45), (.tmp 46), (.tmp 47)], none, 7⟩, ⟨some 10, .alloc 0 (Z8 64), none, 0⟩, ⟨none, .store 64 (.tmp 10) (.tmp 48), none, 31⟩] false) (.seq (.seq (.region [⟨some 49, .load true 64 (.tmp 10), none, 0⟩, ⟨some 50, .call true 48 1 [(.tmp 49)], none, 1⟩, ⟨some 51, .move (.tmp 7), none, 0⟩, ⟨some 52, .move (.tmp 9), none, 0⟩, ⟨some 53, .call true 50 1 [(.tmp 51), (.tmp 52)], none, 15⟩, ⟨some 54, .eq true (.num) (.tmp 50) (.tmp 53), none, 31⟩] false) (.cond (.tmp 54) (.exit 0) (.skip))) (.region [⟨some 55, .move (.tmp 8), none, 0⟩, ⟨some 56, .slice (.arr 64) (.tmp 10) (some (.val (.int .i64 8))) (some (.val (.int .i64 56))) none, none, 0⟩, ⟨some 57, .call true 51 1 [(.tmp 56)], none, 2⟩, ⟨some 58, .buildSlice 1 [(.isl 0 1 [])] [(0, (.tmp 57))], none, 6⟩, ⟨some 59, .append 1 24 (.tmp 55) (.tmp 58), none, 15⟩, ⟨some 8, .assign (.tmp 59), none, 31⟩] false))))) (.region [⟨some 60, .bin (.add) (.tmp 42) (.val (.int .i64 1)), none, 0⟩, ⟨some 42, .move (.tmp 60), none, 1⟩] false))))))) (.seq (.region [⟨some 61, .move (.tmp 7), none, 0⟩, ⟨some 62, .move (.tmp 8), none, 0⟩, ⟨some 4, .assign (.tmp 61), none, 1⟩, ⟨some 5, .assign (.tmp 62), none, 7⟩] false) (.ret))))))))
abbrev v14 : VFunc := { nparams := 2, ntmps := 63, nsites := 1, results := [.tmp 4, .tmp 5], body := b14 }
def mid (c : List Nat) : List Nat := (c.drop 8).take 48
def rdN (es : List (List Nat)) (ls : List (Nat × List Nat)) (i r : Nat) : Nat → Nat → List (List Nat)
  | _, 0 => []
  | a, k + 1 => if markN (getC es ls ((i + a : Nat) : Int)) = mkN r a then mid (getC es ls ((i + a : Nat) : Int)) :: rdN es ls i r (a + 1) k else []
abbrev iB (b : List Nat) : V := .isl 0 1 (byN b)
def readN (es : List (List Nat)) (ls : List (Nat × List Nat)) (side : Int) : Nat × List (List Nat) :=
  if side < 0 ∨ 2 ≤ side ∨ es.length / 2 = 0 then (0, []) else
  let i := side.toNat * (es.length / 2)
  let f := markN (getC es ls (i : Int))
  let r := f / 65536
  if r < 1 ∨ 1099511627776 < r ∨ f ≠ mkN r 0 then (0, []) else (r, rdN es ls i r 0 (es.length / 2))
abbrev listV (l : List (List Nat)) : V := .xsl 0 1 (l.map iB)
abbrev readV (x : Nat × List (List Nat)) : V := .tup [.int .u64 (x.1 : Int), listV x.2]
def SRd (sd r : Nat) (es : List (List Nat)) (ls : List (Nat × List Nat)) (off : Bool) (left : Int) (a : Nat × List (List Nat)) : St :=
  ⟨(q0 :: .int .i64 sd :: .gone 0 :: .gone 0 :: .gone 0 :: .gone 0 :: .gone 0 :: .int .u64 r :: .xsl 0 1 (a.2.map iB) :: .gone 0 :: .gone 0 :: .gone 0 :: .gone 0 :: .gone 0 :: .gone 0 :: .gone 0 :: .gone 0 :: .gone 0 :: .gone 0 :: .gone 0 :: .gone 0 :: .gone 0 :: .gone 0 :: .gone 0 :: .gone 0 :: .gone 0 :: .gone 0 :: .gone 0 :: .gone 0 :: .gone 0 :: .gone 0 :: .gone 0 :: .gone 0 :: .gone 0 :: .gone 0 :: .gone 0 :: .gone 0 :: .gone 0 :: .gone 0 :: .gone 0 :: .gone 0 :: .int .i64 ((es.length / 2 : Nat) : Int) :: .int .i64 a.1 :: .gone 0 :: .gone 0 :: .gone 0 :: .gone 0 :: .gone 0 :: .gone 0 :: .gone 0 :: .gone 0 :: .gone 0 :: .gone 0 :: .gone 0 :: .gone 0 :: .gone 0 :: .gone 0 :: .gone 0 :: .gone 0 :: .gone 0 :: .gone 0 :: .gone 0 :: .gone 0 :: []), [some (plateO es true ls off left), none]⟩
section
variable (G : VProg)
theorem mread (hG : G 14 = some (.code v14)) (hR : ∀ es fz ls off left, es.length < 2 ^ 40 → lim G 28 [q0] [plateO es fz ls off left] = some (.int .i64 ((es.length / 2 : Nat) : Int), [plateO es fz ls off left]))
    (hM : ∀ r a : Nat, r ≤ 2 ^ 40 → a < 2 ^ 30 → lim G 50 [.int .u64 r, .int .i64 a] [] = some (.int .u64 (mkN r a : Nat), []))
    (hK : ∀ c : List Nat, C64 c → lim G 48 [cellV c] [] = some (.int .u64 (markN c : Nat), []))
    (hc : ∀ es : List V, es.length ≤ 140737488355328 → lim G 51 [.isl 0 1 es] [] = some (.xsl 0 1 es, []))
    (hX : ∀ (s a : Nat) (_ : s < 2) (_ : a < 2 ^ 40) (es fz ls off left) (_ : PW es ls),
      lim G 49 [q0, .int .i64 s, .int .i64 a] [plateO es fz ls off left] = some (cellV (getC es ls ((s * (es.length / 2) + a : Nat) : Int)), [plateO es (if inR ((s * (es.length / 2) + a : Nat) : Int) es.length then true else fz) ls off left]))
    (side : Int) (es fz ls off left) (h : PW es ls) :
    lim G 14 [q0, .int .i64 side] [plateO es fz ls off left] = some (readV (readN es ls side), [plateO es (fz || decide (0 ≤ side ∧ side < 2 ∧ 0 < es.length / 2)) ls off left]) := by
  have hn := h.n
  have g1 := hR es fz ls off left (by omega)
  cases b1 : decide (side < 0)
  case true =>
    simp at b1
    unfold readN
    rw [if_pos (by omega), decide_eq_false (by omega), Bool.or_false]
    have b1 : decide (side < 0) = true := by simp; omega
    cases fz
    all_goals exact lim_fun hG (h := runV b1 trivial trivial)
  cases b2 : decide (2 ≤ side)
  case true =>
    simp at b2
    unfold readN
    rw [if_pos (by omega), decide_eq_false (by omega), Bool.or_false]
    have b2 : decide (2 ≤ side) = true := by simp; omega
    cases fz
    all_goals exact lim_fun hG (h := runV (And.intro b1 b2) trivial trivial)
  cases b3 : (((es.length / 2 : Nat) : Int) == 0)
  case true =>
    simp only [beq_iff_eq] at b3
    unfold readN
    rw [if_pos (by omega), decide_eq_false (by omega), Bool.or_false]
    have b3 : (((es.length / 2 : Nat) : Int) == 0) = true := by simp only [beq_iff_eq]; omega
    cases fz
    all_goals exact lim_fun hG (h := runV (And.intro b1 (And.intro b2 b3)) trivial trivial)
  have k1 : ¬ side < 0 := by simpa using b1
  have k2 : ¬ 2 ≤ side := by simpa using b2
  have k3 : ¬ ((es.length / 2 : Nat) : Int) = 0 := by simpa only [beq_eq_false_iff_ne, ne_eq] using b3
  unfold readN
  rw [if_neg (by omega), decide_eq_true (by omega), Bool.or_true]
  obtain ⟨sd, rfl⟩ : ∃ sd : Nat, side = sd := ⟨side.toNat, by omega⟩
  simp only [Int.toNat_natCast]
  have g2 := hX sd 0 (by omega) (by omega) es fz ls off left h
  obtain ⟨i, hi⟩ : ∃ i, i = sd * (es.length / 2) := ⟨_, rfl⟩
  have hi2 : i + es.length / 2 ≤ es.length := by
    have : sd = 0 ∨ sd = 1 := by omega
    rcases this with rfl | rfl <;> omega
  rw [← hi] at g2 ⊢
  have hin : inR ((i + 0 : Nat) : Int) es.length = true := by simp only [inR, Bool.and_eq_true, decide_eq_true_eq]; omega
  rw [hin] at g2
  simp only [if_true, Nat.add_zero] at g2
  have hC := getC_C h (i : Int)
  have hl := hC.1
  have g3 := hK _ hC
  have hm := markN_lt hC
  obtain ⟨c, hcd⟩ : ∃ c, c = getC es ls (i : Int) := ⟨_, rfl⟩
  rw [← hcd] at g2 g3 hl hm ⊢
  obtain ⟨f, hf⟩ : ∃ f, f = markN c := ⟨_, rfl⟩
  rw [← hf] at g3 hm ⊢
  obtain ⟨r, hr⟩ : ∃ r, r = f / 65536 := ⟨_, rfl⟩
  have s1 : (f : Int).fdiv (2 ^ min 16 IntKind.u64.bits) = (r : Int) := by rw [hr, Int.fdiv_eq_ediv_of_nonneg _ (by decide)]; rfl
  rw [← hr]
  have g2' : lim G 49 [q0, .int .i64 sd, .int .i64 0] [plateO es fz ls off left] = some (cellV c, [plateO es true ls off left]) := g2
  clear g2
  have F := And.intro b1 (And.intro b2 (And.intro b3 (And.intro s1 (cf hl))))
  cases b4 : decide ((r : Int) < 1)
  case true =>
    simp only [decide_eq_true_eq] at b4
    rw [if_pos (by omega)]
    have b4 : decide ((r : Int) < 1) = true := by simp only [decide_eq_true_eq]; omega
    cases fz
    all_goals exact lim_fun hG (h := runV (And.intro b4 F) trivial trivial)
  cases b5 : decide ((1099511627776 : Int) < (r : Int))
  case true =>
    simp only [decide_eq_true_eq] at b5
    rw [if_pos (by omega)]
    have b5 : decide ((1099511627776 : Int) < (r : Int)) = true := by simp only [decide_eq_true_eq]; omega
    cases fz
    all_goals exact lim_fun hG (h := runV (And.intro b4 (And.intro b5 F)) trivial trivial)
  have k4 : ¬ (r : Int) < 1 := by simpa only [decide_eq_false_iff_not] using b4
  have k5 : ¬ (1099511627776 : Int) < (r : Int) := by simpa only [decide_eq_false_iff_not] using b5
  have g4 := hM r 0 (by omega) (by omega)
  have g4' : lim G 50 [.int .u64 r, .int .i64 0] [] = some (.int .u64 (mkN r 0 : Nat), []) := g4
  clear g4
  obtain ⟨m0, hm0⟩ : ∃ m0, m0 = mkN r 0 := ⟨_, rfl⟩
  rw [← hm0] at g4' ⊢
  cases b6 : ((f : Int) == (m0 : Int))
  case false =>
    rw [if_pos (.inr (.inr (by intro e; rw [e] at b6; simp at b6)))]
    clear hm0
    cases fz
    all_goals exact lim_fun hG (h := runV (And.intro b4 (And.intro b5 (And.intro b6 F))) trivial trivial)
  have k6 : f = m0 := by simp only [beq_iff_eq] at b6; omega
  rw [if_neg (by rintro (h | h | h); omega; omega; exact h k6)]
  have g1t := hR es true ls off left (by omega)
  have hM' := fun a (ha : a < 2 ^ 30) => hM r a (by omega) ha
  have hX' := fun a (ha : a < es.length / 2) => hX sd a (by omega) (by omega) es true ls off left h
  rw [← hi] at hX'
  simp only [ite_self] at hX'
  cases fz
  case' false =>
    refine lim_fun hG (h := runV (And.intro b4 (And.intro b5 (And.intro b6 F))) trivial ?_)
  case' true =>
    refine lim_fun hG (h := runV (And.intro b4 (And.intro b5 (And.intro b6 F))) trivial ?_)
  all_goals
    refine WL_loop (SRd sd r es ls off left) (fun a => a.1 ≤ es.length / 2 ∧ a.2.length = a.1 ∧ a.2 ++ rdN es ls i r a.1 (es.length / 2 - a.1) = rdN es ls i r 0 (es.length / 2)) (fun a => es.length / 2 - a.1) ?_ (0, []) _ ⟨Nat.zero_le _, rfl, by rw [Nat.sub_zero, List.nil_append]⟩ (by kernel_rfl)
    rintro ⟨a, out⟩ ⟨ha, ho, hrd⟩
    simp only at ha ho hrd
    by_cases hlt0 : a < es.length / 2
    · have hlt : decide ((a : Int) < ((es.length / 2 : Nat) : Int)) = true := by simp only [decide_eq_true_eq]; omega
      have i1 := inc64 a (by omega)
      have q1 := hX' a hlt0
      have q2 := hM' a (by omega)
      have hCa := getC_C h ((i + a : Nat) : Int)
      have q3 := hK _ hCa
      have hla := hCa.1
      have hrd2 : rdN es ls i r a (es.length / 2 - a) = if markN (getC es ls ((i + a : Nat) : Int)) = mkN r a then mid (getC es ls ((i + a : Nat) : Int)) :: rdN es ls i r (a + 1) (es.length / 2 - (a + 1)) else [] := by
        rw [show es.length / 2 - a = (es.length / 2 - (a + 1)) + 1 by omega]; rfl
      rw [hrd2] at hrd
      clear hrd2
      obtain ⟨ca, hca⟩ : ∃ ca, ca = getC es ls ((i + a : Nat) : Int) := ⟨_, rfl⟩
      rw [← hca] at q1 q3 hla hrd
      obtain ⟨u, hu⟩ : ∃ u, u = markN ca := ⟨_, rfl⟩
      obtain ⟨w, hw⟩ : ∃ w, w = mkN r a := ⟨_, rfl⟩
      rw [← hu] at q3 hrd
      rw [← hw] at q2 hrd
      have hmid := hc (byN (mid ca)) (by rw [byN_len]; simp [mid, hla])
      have dm : List.take 48 (List.drop 8 (byN ca)) = byN (mid ca) := by rw [byN_sub']; rfl
      obtain ⟨mc, hmc⟩ : ∃ mc, mc = mid ca := ⟨_, rfl⟩
      rw [← hmc] at hmid dm hrd
      cases b7 : ((u : Int) == (w : Int))
      · rw [if_neg (by intro e; rw [e] at b7; simp at b7)] at hrd
        rw [← hrd, List.append_nil]
        unfold SRd
        refine runV (And.intro hlt (And.intro i1 (And.intro b7 (cf hla)))) trivial ?_
        refine Qr_x ?_
        refine Qb_x (σ1 := ⟨(.gone 0 :: .gone 0 :: .gone 0 :: .gone 0 :: .gone 0 :: .gone 0 :: .gone 0 :: .int .u64 r :: .xsl 0 1 (out.map iB) :: .gone 0 :: .gone 0 :: .gone 0 :: .gone 0 :: .gone 0 :: .gone 0 :: .gone 0 :: .gone 0 :: .gone 0 :: .gone 0 :: .gone 0 :: .gone 0 :: .gone 0 :: .gone 0 :: .gone 0 :: .gone 0 :: .gone 0 :: .gone 0 :: .gone 0 :: .gone 0 :: .gone 0 :: .gone 0 :: .gone 0 :: .gone 0 :: .gone 0 :: .gone 0 :: .gone 0 :: .gone 0 :: .gone 0 :: .gone 0 :: .gone 0 :: .gone 0 :: .gone 0 :: .gone 0 :: .gone 0 :: .gone 0 :: .gone 0 :: .gone 0 :: .gone 0 :: .gone 0 :: .gone 0 :: .gone 0 :: .gone 0 :: .gone 0 :: .gone 0 :: .gone 0 :: .gone 0 :: .gone 0 :: .gone 0 :: .gone 0 :: .gone 0 :: .gone 0 :: .gone 0 :: .gone 0 :: []), [some (plateO es true ls off left), none]⟩) (by kernel_rfl) ?_
        refine runV trivial trivial ?_
        exact Qe_r (fin_own2 rfl rfl rfl rfl rfl (by simp) rfl)
      · rw [if_pos (by simp only [beq_iff_eq] at b7; omega)] at hrd
        have em : out.map iB ++ [.isl 0 1 (byN mc)] = (out ++ [mc]).map iB := by simp
        unfold SRd
        refine runV (And.intro hlt (And.intro i1 (And.intro b7 (And.intro dm (And.intro em (cf hla)))))) (apart_xs mc) ?_
        exact Qr_n (a + 1, out ++ [mc]) (by kernel_rfl) ⟨⟨by simp only; omega, by simp [ho], by simp only; rw [List.append_assoc]; exact hrd⟩, by simp only; omega⟩
    · obtain rfl : a = es.length / 2 := by omega
      have hlt : decide ((((es.length / 2 : Nat) : Nat) : Int) < ((es.length / 2 : Nat) : Int)) = false := by simp only [decide_eq_false_iff_not]; omega
      rw [Nat.sub_self] at hrd
      have hrd2 : out = rdN es ls i r 0 (es.length / 2) := by rw [← hrd]; simp [rdN]
      rw [← hrd2]
      unfold SRd
      refine runV hlt trivial ?_
      refine Qr_x ?_
      refine Qb_x (σ1 := ⟨(.gone 0 :: .gone 0 :: .gone 0 :: .gone 0 :: .gone 0 :: .gone 0 :: .gone 0 :: .int .u64 r :: .xsl 0 1 (out.map iB) :: .gone 0 :: .gone 0 :: .gone 0 :: .gone 0 :: .gone 0 :: .gone 0 :: .gone 0 :: .gone 0 :: .gone 0 :: .gone 0 :: .gone 0 :: .gone 0 :: .gone 0 :: .gone 0 :: .gone 0 :: .gone 0 :: .gone 0 :: .gone 0 :: .gone 0 :: .gone 0 :: .gone 0 :: .gone 0 :: .gone 0 :: .gone 0 :: .gone 0 :: .gone 0 :: .gone 0 :: .gone 0 :: .gone 0 :: .gone 0 :: .gone 0 :: .gone 0 :: .gone 0 :: .gone 0 :: .gone 0 :: .gone 0 :: .gone 0 :: .gone 0 :: .gone 0 :: .gone 0 :: .gone 0 :: .gone 0 :: .gone 0 :: .gone 0 :: .gone 0 :: .gone 0 :: .gone 0 :: .gone 0 :: .gone 0 :: .gone 0 :: .gone 0 :: .gone 0 :: .gone 0 :: .gone 0 :: []), [some (plateO es true ls off left), none]⟩) (by kernel_rfl) ?_
      refine runV trivial trivial ?_
      exact Qe_r (fin_own2 rfl rfl rfl rfl rfl (by simp) rfl)
end
end P1
end Go.Vq
