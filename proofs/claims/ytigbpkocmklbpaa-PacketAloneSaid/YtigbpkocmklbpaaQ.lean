/- The V-level machine, run on values that are not known (no law of Go is stated here). -/
import Derived.Test.YtigbpkocmklbpaaP
import Derived.KernelRfl
set_option linter.unusedVariables false
set_option linter.unusedSimpArgs false
set_option linter.unusedSectionVars false
namespace Go.Vq
namespace P1
open Go
set_option maxRecDepth 1000000
set_option maxHeartbeats 8000000
/-! ### frames as bytes, and back: plain laws -/
theorem tailN_self (l : List Nat) (r : List Nat) : tailN (l ++ r) l = 0 := by
  induction l with
  | nil => cases r <;> rfl
  | cons x l ih => simp only [List.cons_append, tailN, if_true]; exact ih
theorem tailN_zero : ∀ (s : List Nat) (l : List Nat), tailN l s = 0 → l.take s.length = s
  | [], l, _ => rfl
  | y :: s, [], h => by simp [tailN] at h
  | y :: s, x :: l, h => by
    simp only [tailN] at h
    split at h
    · rename_i e
      subst e
      simp only [List.length_cons, List.take_succ_cons, tailN_zero s l h]
    · cases h
/-- The number of a frame's length, read back. -/
theorem dec_dig (lim : Nat) (hlim : lim < 2 ^ 62) : ∀ (m i n : Nat) (r : List Nat), n + m * 2 ^ (7 * i) ≤ lim → i ≤ 8 → (0 < i → 0 < m) → dec lim i n (digN m ++ r) = (((n + m * 2 ^ (7 * i) : Nat) : Int), ((i + (digN m).length : Nat) : Int)) := by
  intro m
  induction m using Nat.strongRecOn with
  | ind m ih =>
    intro i n r hl hi hpos
    have hp : 0 < 2 ^ (7 * i) := Nat.two_pow_pos _
    by_cases h : m < 128
    · rw [digN_lo h, List.singleton_append, dec_cons]
      have e : m % 128 = m := Nat.mod_eq_of_lt h
      rw [e, if_neg (by omega), if_pos h]; rfl
    · rw [digN_hi h, List.cons_append, dec_cons]
      have e : (m % 128 + 128) % 128 = m % 128 := by omega
      have e2 : 2 ^ (7 * (i + 1)) = 128 * 2 ^ (7 * i) := by rw [show 7 * (i + 1) = 7 * i + 7 by omega, Nat.pow_add, Nat.mul_comm]
      have hm : m = 128 * (m / 128) + m % 128 := by omega
      have hmul : m * 2 ^ (7 * i) = (m / 128) * 2 ^ (7 * (i + 1)) + m % 128 * 2 ^ (7 * i) := by
        rw [e2]
        conv => lhs; rw [hm, Nat.add_mul]
        congr 1
        rw [Nat.mul_comm 128, Nat.mul_assoc]
      have hq : 1 ≤ m / 128 := by omega
      have hge : 2 ^ (7 * (i + 1)) ≤ m / 128 * 2 ^ (7 * (i + 1)) := Nat.le_mul_of_pos_left _ hq
      have hi7 : i ≤ 7 := by
        rcases Nat.lt_or_ge 7 i with h8 | h8
        · have : i = 8 := by omega
          subst this
          have : (2 : Nat) ^ (7 * (8 + 1)) = 9223372036854775808 := by decide
          have h62 : (2 : Nat) ^ 62 = 4611686018427387904 := by decide
          omega
        · exact h8
      rw [e, if_neg (by omega), if_neg (by omega), if_neg (by omega)]
      rw [ih (m / 128) (by omega) (i + 1) _ r (by omega) (by omega) (fun _ => by omega)]
      have e9 : n + m % 128 * 2 ^ (7 * i) + m / 128 * 2 ^ (7 * (i + 1)) = n + m * 2 ^ (7 * i) := by rw [hmul]; omega
      have e8 : i + 1 + (digN (m / 128)).length = i + ((m % 128 + 128) :: digN (m / 128)).length := by simp only [List.length_cons]; omega
      rw [e9, e8]
/-- In one way alone. -/
theorem dec_inv (lim : Nat) : ∀ (l : List Nat) (i n : Nat) (N u : Nat), (∀ x ∈ l, x < 256) → dec lim i n l = ((N : Int), (u : Int)) → 0 < u → ∃ m, l.take (u - i) = digN m ∧ i < u ∧ u ≤ i + l.length ∧ N = n + m * 2 ^ (7 * i) ∧ (0 < i → 0 < m)
  | [], i, n, N, u, _, h, hu => by
    exfalso; simp [dec] at h; omega
  | x :: l, i, n, N, u, hb, h, hu => by
    have hx := hb x (by simp)
    rw [dec_cons] at h
    split at h
    · simp at h <;> omega
    · rename_i hc
      split at h
      · rename_i h128
        simp only [Prod.mk.injEq] at h
        have hu' : u = i + 1 := by omega
        have hN : N = n + x % 128 * 2 ^ (7 * i) := by omega
        have e : x % 128 = x := Nat.mod_eq_of_lt h128
        rw [e] at hN
        refine ⟨x, ?_, by omega, by simp only [List.length_cons]; omega, hN, fun hi => ?_⟩
        · rw [hu', show i + 1 - i = 1 by omega, digN_lo h128]; rfl
        · rcases Nat.eq_zero_or_pos x with h0 | h0
          · exact absurd (.inr (.inl ⟨hi, h0⟩)) hc
          · exact h0
      · rename_i h128
        split at h
        · simp at h <;> omega
        · obtain ⟨m, h1, h2, h3, h4, h5⟩ := dec_inv lim l (i + 1) _ N u (fun y hy => hb y (by simp [hy])) h hu
          have hm := h5 (by omega)
          have e2 : 2 ^ (7 * (i + 1)) = 128 * 2 ^ (7 * i) := by rw [show 7 * (i + 1) = 7 * i + 7 by omega, Nat.pow_add, Nat.mul_comm]
          refine ⟨m * 128 + x % 128, ?_, by omega, by simp only [List.length_cons]; omega, ?_, fun _ => by omega⟩
          · rw [digN_hi (by omega), show (m * 128 + x % 128) % 128 + 128 = x by omega, show (m * 128 + x % 128) / 128 = m by omega, ← h1, show u - i = (u - (i + 1)) + 1 by omega, List.take_succ_cons]
          · rw [h4, e2, Nat.add_mul, Nat.mul_assoc]; omega
theorem openN_cons (k : Nat) (r : List Nat) : openN (167 :: 1 :: k :: r) =
    if (dec 65536 0 0 r).2 < 0 then ((0, []), 0, 62) else if (dec 65536 0 0 r).2 = 0 then ((0, []), 0, 61) else
    if r.length < (dec 65536 0 0 r).2.toNat + (dec 65536 0 0 r).1.toNat then ((0, []), 0, 61) else
    if tailN (r.drop ((dec 65536 0 0 r).2.toNat + (dec 65536 0 0 r).1.toNat)) (fourN (crc (167 :: 1 :: k :: r.take ((dec 65536 0 0 r).2.toNat + (dec 65536 0 0 r).1.toNat)))) ≠ 0 then
      ((0, []), 0, tailN (r.drop ((dec 65536 0 0 r).2.toNat + (dec 65536 0 0 r).1.toNat)) (fourN (crc (167 :: 1 :: k :: r.take ((dec 65536 0 0 r).2.toNat + (dec 65536 0 0 r).1.toNat)))))
    else ((k, (r.drop (dec 65536 0 0 r).2.toNat).take (dec 65536 0 0 r).1.toNat), 3 + ((dec 65536 0 0 r).2.toNat + (dec 65536 0 0 r).1.toNat) + 4, 0) := by
  unfold openN
  rw [if_neg (by rintro (⟨h, h'⟩ | ⟨h, h'⟩); exact h' rfl; exact h' rfl), if_neg (by simp only [List.length_cons]; omega)]
  have e0 : List.drop 3 (167 :: 1 :: k :: r) = r := rfl
  have e1 : ∀ u N, List.drop (3 + (u + N)) (167 :: 1 :: k :: r) = r.drop (u + N) := fun u N => by rw [show 3 + (u + N) = (u + N) + 3 by omega]; rfl
  have e2 : ∀ u N, List.take (3 + (u + N)) (167 :: 1 :: k :: r) = 167 :: 1 :: k :: r.take (u + N) := fun u N => by rw [show 3 + (u + N) = (u + N) + 3 by omega]; rfl
  have e3 : ∀ u, List.drop (3 + u) (167 :: 1 :: k :: r) = r.drop u := fun u => by rw [show 3 + u = u + 3 by omega]; rfl
  have e4 : ∀ u N, ((167 :: 1 :: k :: r).length < 3 + (u + N)) = (r.length < u + N) := fun u N => by simp only [List.length_cons, eq_iff_iff]; omega
  simp only [e0, e1, e2, e3, e4, List.getD_cons_succ, List.getD_cons_zero, Nat.add_assoc]
theorem frameN_len (k : Nat) (body : List Nat) : (frameN k body).length = 7 + (digN body.length).length + body.length := by simp [frameN, headN, fourN]; omega
theorem dec_len (body r : List Nat) (h : body.length ≤ 65536) : dec 65536 0 0 (digN body.length ++ r) = ((body.length : Int), ((digN body.length).length : Int)) := by
  have := dec_dig 65536 (by decide) body.length 0 0 r (by omega) (by omega) (by omega)
  simpa using this
theorem digN_pos (n : Nat) : 0 < (digN n).length := by
  by_cases h : n < 128
  · rw [digN_lo h]; simp
  · rw [digN_hi h]; simp
/-- What was written is opened. -/
theorem open_frame (k : Nat) (body r : List Nat) (h : body.length ≤ 65536) : openN (frameN k body ++ r) = ((k, body), (frameN k body).length, 0) := by
  have e : frameN k body ++ r = 167 :: 1 :: k :: (digN body.length ++ (body ++ (fourN (crc (headN k body)) ++ r))) := by simp [frameN, headN]
  have hp := digN_pos body.length
  rw [e, openN_cons, dec_len _ _ h]
  simp only [Int.toNat_natCast]
  have d1 : List.drop ((digN body.length).length + body.length) (digN body.length ++ (body ++ (fourN (crc (headN k body)) ++ r))) = fourN (crc (headN k body)) ++ r := by
    rw [← List.append_assoc, List.drop_left' (by simp)]
  have d2 : List.take ((digN body.length).length + body.length) (digN body.length ++ (body ++ (fourN (crc (headN k body)) ++ r))) = digN body.length ++ body := by
    rw [← List.append_assoc, List.take_left' (by simp)]
  have d3 : List.take body.length (List.drop (digN body.length).length (digN body.length ++ (body ++ (fourN (crc (headN k body)) ++ r)))) = body := by
    rw [List.drop_left, List.take_left]
  have d4 : (167 :: 1 :: k :: (digN body.length ++ body)) = headN k body := by simp [headN]
  have d5 : 3 + ((digN body.length).length + body.length) + 4 = 7 + (digN body.length).length + body.length := by omega
  rw [d1, d2, d3, d4, tailN_self, if_neg (by omega), if_neg (by omega), if_neg (by simp), if_neg (by simp), frameN_len, d5]
/-- A beginning of it isn't. -/
theorem open_short (k : Nat) (body : List Nat) (h : body.length ≤ 65536) : openN ((frameN k body).take ((frameN k body).length - 1)) = ((0, []), 0, 61) := by
  have hp := digN_pos body.length
  obtain ⟨c, hc⟩ : ∃ c, c = crc (headN k body) := ⟨_, rfl⟩
  have e : (frameN k body).take ((frameN k body).length - 1) = 167 :: 1 :: k :: (digN body.length ++ (body ++ (fourN c).take 3)) := by
    have : frameN k body = (167 :: 1 :: k :: (digN body.length ++ (body ++ (fourN c).take 3))) ++ [c / 16777216 % 256] := by simp [frameN, headN, fourN, hc]
    rw [this]
    exact List.take_left' (by simp only [List.length_append, List.length_singleton, Nat.add_sub_cancel])
  rw [e, openN_cons, dec_len _ _ h]
  simp only [Int.toNat_natCast]
  have d1 : List.drop ((digN body.length).length + body.length) (digN body.length ++ (body ++ (fourN c).take 3)) = (fourN c).take 3 := by
    rw [← List.append_assoc, List.drop_left' (by simp)]
  have d2 : List.take ((digN body.length).length + body.length) (digN body.length ++ (body ++ (fourN c).take 3)) = digN body.length ++ body := by
    rw [← List.append_assoc, List.take_left' (by simp)]
  have d4 : (167 :: 1 :: k :: (digN body.length ++ body)) = headN k body := by simp [headN]
  have d5 : tailN ((fourN c).take 3) (fourN c) = 61 := by simp [fourN, tailN]
  rw [d1, d2, d4, ← hc, d5, if_neg (by omega), if_neg (by omega), if_neg (by simp), if_pos (by decide)]
/-- What opens is what would be written. -/
theorem open_inv (b : List Nat) (hb : ∀ x ∈ b, x < 256) (k : Nat) (body : List Nat) (n : Nat) (h : openN b = ((k, body), n, 0)) : frameN k body = b.take n ∧ body.length ≤ 65536 ∧ n ≤ b.length ∧ (∀ x ∈ body, x < 256) ∧ k < 256 := by
  by_cases hh : (∃ h : 0 < b.length, b[0] ≠ 167) ∨ (∃ h : 1 < b.length, b[1] ≠ 1)
  · unfold openN at h; rw [if_pos hh] at h; simp at h
  by_cases h3 : b.length < 3
  · unfold openN at h; rw [if_neg hh, if_pos h3] at h; simp at h
  obtain ⟨a0, a1, k', r, rfl⟩ : ∃ a0 a1 k' r, b = a0 :: a1 :: k' :: r := by
    match b, h3 with
    | a0 :: a1 :: k' :: r, _ => exact ⟨_, _, _, _, rfl⟩
    | [], h => simp at h
    | [_], h => simp at h
    | [_, _], h => simp at h
  have ha0 : a0 = 167 := by
    rcases Nat.eq_or_lt_of_le (Nat.le_refl a0) with _ | _
    · by_cases e : a0 = 167
      · exact e
      · exact absurd (.inl ⟨by simp, e⟩) hh
    · omega
  have ha1 : a1 = 1 := by
    by_cases e : a1 = 1
    · exact e
    · exact absurd (.inr ⟨by simp, e⟩) hh
  subst ha0 ha1
  rw [openN_cons] at h
  have hbr : ∀ x ∈ r, x < 256 := fun x hx => hb x (by simp [hx])
  rcases dec_cases' 65536 r 0 0 with hd | hd | ⟨N, u, hd, hu1, hu2, hu3⟩
  · rw [hd] at h; simp at h
  · rw [hd] at h; simp at h
  rw [hd] at h
  simp only [Int.toNat_natCast] at h
  rw [if_neg (by omega), if_neg (by omega)] at h
  split at h
  · simp at h
  rename_i hlen
  split at h
  · simp at h
    omega
  rename_i ht
  simp only [ne_eq, Decidable.not_not] at ht
  simp only [Prod.mk.injEq] at h
  obtain ⟨⟨rfl, rfl⟩, rfl, _⟩ := h
  obtain ⟨m, h1, _, _, h4, _⟩ := dec_inv 65536 r 0 0 N u hbr hd hu1
  simp only [Nat.sub_zero, Nat.mul_zero, Nat.pow_zero, Nat.mul_one, Nat.zero_add] at h1 h4
  subst h4
  have hbl : ((r.drop u).take N).length = N := by simp; omega
  have hhead : headN k' ((r.drop u).take N) = 167 :: 1 :: k' :: r.take (u + N) := by
    unfold headN
    rw [hbl, ← h1]
    simp only [List.cons_append, List.nil_append, List.append_assoc, List.cons.injEq, true_and]
    rw [List.take_add]
  have hf := tailN_zero _ _ ht
  refine ⟨?_, by rw [hbl]; exact hu3, ?_, fun x hx => hbr x (List.mem_of_mem_drop (List.mem_of_mem_take hx)), hb k' (by simp)⟩
  · unfold frameN
    rw [hhead, show 3 + (u + N) + 4 = (u + N) + 4 + 3 by omega]
    simp only [List.take_succ_cons, List.cons_append, List.cons.injEq, true_and]
    have h9 : List.take (u + N + 4) r = List.take (u + N) r ++ List.take 4 (List.drop (u + N) r) := List.take_add
    rw [h9]
    exact congrArg (List.take (u + N) r ++ ·) hf.symm
  · have hf4 := congrArg List.length hf
    simp only [List.length_take, List.length_drop, fourN, List.length_cons, List.length_nil] at hf4
    simp only [List.length_cons]
    omega
end P1
end Go.Vq

namespace Go.Vq
namespace P1
open Go
set_option maxRecDepth 1000000
set_option maxHeartbeats 8000000
abbrev b9 : VCode := .seq (.region [⟨some 4, .assign (.val (.bool false)), none, 0⟩] false) (.seq (.seq (.region [⟨some 23, .call true 31 0 [], none, 0⟩, ⟨some 24, .un (.not) (.tmp 23), none, 1⟩] false) (.cond (.tmp 24) (.seq (.region [⟨some 4, .assign (.val (.bool false)), none, 0⟩] false) (.ret)) (.skip))) (.seq (.seq (.region [⟨some 25, .move (.tmp 0), none, 0⟩, ⟨some 26, .len (.slc 1) (.tmp 25), none, 1⟩, ⟨some 27, .bin (.gtr) (.tmp 26) (.val (.int .i64 2000)), none, 3⟩, ⟨some 28, .move (.tmp 27), none, 7⟩, ⟨some 29, .move (.tmp 1), some (28, false), 15⟩, ⟨some 30, .len (.slc 2) (.tmp 29), some (28, false), 31⟩, ⟨some 31, .bin (.gtr) (.tmp 30) (.val (.int .i64 8)), some (28, false), 63⟩, ⟨some 32, .pick (.tmp 28) (.val (.bool true)) (.tmp 31), none, 127⟩] false) (.cond (.tmp 32) (.seq (.region [⟨some 4, .assign (.val (.bool true)), none, 0⟩] false) (.ret)) (.skip))) (.seq (.region [⟨some 34, .move (.tmp 0), none, 0⟩, ⟨some 35, .call true 34 0 [(.tmp 34)], none, 1⟩, ⟨some 33, .move (.tmp 35), none, 3⟩, ⟨some 36, .extract (.tmp 33) 0, none, 7⟩, ⟨some 37, .extract (.tmp 33) 1, none, 7⟩, ⟨some 38, .extract (.tmp 33) 2, none, 7⟩, ⟨some 5, .alloc 0 [(.int .u8 0), (.xsl 0 1 [])], none, 0⟩, ⟨none, .store 2 (.tmp 5) (.tmp 36), none, 79⟩, ⟨some 6, .assign (.tmp 37), none, 223⟩, ⟨some 7, .assign (.tmp 38), none, 511⟩] false) (.seq (.seq (.region [⟨some 39, .move (.tmp 7), none, 0⟩, ⟨some 40, .eq false (.num) (.tmp 39) (.val (.int .i64 0)), none, 1⟩] false) (.cond (.tmp 40) (.seq (.region [⟨some 42, .load true 2 (.tmp 5), none, 0⟩, ⟨some 43, .call true 32 1 [(.tmp 42)], none, 1⟩, ⟨some 41, .move (.tmp 43), none, 3⟩, ⟨some 44, .extract (.tmp 41) 0, none, 7⟩, ⟨some 45, .extract (.tmp 41) 1, none, 7⟩, ⟨some 8, .assign (.tmp 44), none, 15⟩, ⟨some 9, .assign (.tmp 45), none, 63⟩] false) (.seq (.region [⟨some 46, .move (.tmp 9), none, 0⟩, ⟨some 47, .eq true (.num) (.tmp 46) (.val (.int .i64 0)), none, 1⟩, ⟨some 48, .move (.tmp 47), none, 3⟩, ⟨some 49, .move (.tmp 8), some (48, false), 7⟩, ⟨some 50, .conv (.text) (.tmp 49), some (48, false), 15⟩, ⟨some 51, .move (.tmp 0), some (48, false), 7⟩, ⟨some 52, .move (.tmp 6), some (48, false), 7⟩, ⟨some 53, .slice (.slc 1) (.tmp 51) none (some (.tmp 52)) none, some (48, false), 103⟩, ⟨some 54, .conv (.text) (.tmp 53), some (48, false), 231⟩, ⟨some 55, .eq true (.num) (.tmp 50) (.tmp 54), some (48, false), 511⟩, ⟨some 56, .pick (.tmp 48) (.val (.bool true)) (.tmp 55), none, 1023⟩] true) (.cond (.tmp 56) (.seq (.region [⟨some 4, .assign (.val (.bool false)), none, 0⟩] false) (.ret)) (.skip)))) (.seq (.region [⟨some 57, .move (.tmp 6), none, 0⟩, ⟨some 58, .eq true (.num) (.tmp 57) (.val (.int .i64 0)), none, 1⟩, ⟨some 59, .move (.tmp 58), none, 3⟩, ⟨some 60, .fieldAddr 1 (.tmp 5), some (59, false), 7⟩, ⟨some 61, .load false 1 (.tmp 60), some (59, false), 15⟩, ⟨some 62, .len (.slc 1) (.tmp 61), some (59, false), 31⟩, ⟨some 63, .eq true (.num) (.tmp 62) (.val (.int .i64 0)), some (59, false), 63⟩, ⟨some 64, .pick (.tmp 59) (.val (.bool true)) (.tmp 63), none, 127⟩] false) (.cond (.tmp 64) (.seq (.region [⟨some 4, .assign (.val (.bool false)), none, 0⟩] false) (.ret)) (.skip))))) (.seq (.region [⟨some 65, .buildSlice 1 [] [], none, 0⟩, ⟨some 10, .assign (.tmp 65), none, 1⟩] false) (.seq (.seq (.region [⟨some 66, .move (.tmp 1), none, 0⟩, ⟨some 67, .len (.slc 2) (.tmp 66), none, 1⟩, ⟨some 68, .move (.val (.int .i64 0)), none, 0⟩] false) (.block 0 (some [1, 10, 136, 138]) (.loop (some [1, 10, 66, 67, 68, 136, 138]) (.seq (.region [⟨some 69, .bin (.lss) (.tmp 68) (.tmp 67), none, 0⟩] false) (.seq (.cond (.tmp 69) (.skip) (.exit 0)) (.seq (.block 1 none (.seq (.region [⟨some 70, .indexAddr none 2 (.tmp 66) (.tmp 68), none, 0⟩, ⟨some 71, .load true 2 (.tmp 70), none, 1⟩, ⟨some 12, .alloc 1 [(.int .u8 0), (.xsl 0 1 [])], none, 0⟩, ⟨none, .store 2 (.tmp 12) (.tmp 71), none, 7⟩] false) (.seq (.seq (.region [⟨some 72, .fieldAddr 1 (.tmp 12), none, 0⟩, ⟨some 73, .load false 1 (.tmp 72), none, 1⟩, ⟨some 74, .len (.slc 1) (.tmp 73), none, 3⟩, ⟨some 75, .bin (.gtr) (.tmp 74) (.val (.int .i64 300)), none, 7⟩] false) (.cond (.tmp 75) (.seq (.region [⟨some 4, .assign (.val (.bool true)), none, 0⟩] false) (.ret)) (.skip))) (.seq (.region [⟨some 77, .load true 2 (.tmp 12), none, 0⟩, ⟨some 78, .call true 32 2 [(.tmp 77)], none, 1⟩, ⟨some 76, .move (.tmp 78), none, 3⟩, ⟨some 79, .extract (.tmp 76) 0, none, 7⟩, ⟨some 80, .extract (.tmp 76) 1, none, 7⟩, ⟨some 13, .assign (.tmp 79), none, 15⟩, ⟨some 14, .assign (.tmp 80), none, 63⟩] false) (.seq (.seq (.region [⟨some 81, .move (.tmp 13), none, 0⟩, ⟨some 82, .len (.slc 1) (.tmp 81), none, 1⟩, ⟨some 83, .bin (.lss) (.tmp 82) (.val (.int .i64 1)), none, 3⟩] false) (.cond (.tmp 83) (.seq (.region [⟨some 4, .assign (.val (.bool false)), none, 0⟩] false) (.ret)) (.skip))) (.seq (.region [⟨some 85, .move (.tmp 13), none, 0⟩, ⟨some 86, .move (.tmp 13), none, 0⟩, ⟨some 87, .len (.slc 1) (.tmp 86), none, 2⟩, ⟨some 88, .bin (.sub) (.tmp 87) (.val (.int .i64 1)), none, 6⟩, ⟨some 89, .slice (.slc 1) (.tmp 85) none (some (.tmp 88)) none, none, 15⟩, ⟨some 90, .call true 34 2 [(.tmp 89)], none, 31⟩, ⟨some 84, .move (.tmp 90), none, 63⟩, ⟨some 91, .extract (.tmp 84) 0, none, 127⟩, ⟨some 92, .extract (.tmp 84) 1, none, 127⟩, ⟨some 93, .extract (.tmp 84) 2, none, 127⟩, ⟨some 15, .alloc 2 [(.int .u8 0), (.xsl 0 1 [])], none, 0⟩, ⟨none, .store 2 (.tmp 15) (.tmp 91), none, 1279⟩, ⟨some 16, .assign (.tmp 92), none, 3583⟩, ⟨some 17, .assign (.tmp 93), none, 8191⟩] false) (.seq (.seq (.region [⟨some 94, .move (.tmp 17), none, 0⟩, ⟨some 95, .eq true (.num) (.tmp 94) (.val (.int .i64 61)), none, 1⟩] false) (.cond (.tmp 95) (.seq (.region [⟨some 4, .assign (.val (.bool false)), none, 0⟩] false) (.ret)) (.skip))) (.region [⟨some 96, .move (.tmp 10), none, 0⟩, ⟨some 97, .move (.tmp 13), none, 0⟩, ⟨some 98, .append 1 1 (.tmp 96) (.tmp 97), none, 3⟩, ⟨some 10, .assign (.tmp 98), none, 7⟩] false)))))))) (.region [⟨some 99, .bin (.add) (.tmp 68) (.val (.int .i64 1)), none, 0⟩, ⟨some 68, .move (.tmp 99), none, 1⟩] false))))))) (.seq (.seq (.region [⟨some 100, .move (.tmp 1), none, 0⟩, ⟨some 101, .len (.slc 2) (.tmp 100), none, 1⟩, ⟨some 102, .move (.val (.int .i64 0)), none, 0⟩] false) (.block 2 (some [10, 136, 138]) (.loop (some [1, 10, 100, 101, 102, 136, 138]) (.seq (.region [⟨some 103, .bin (.lss) (.tmp 102) (.tmp 101), none, 0⟩] false) (.seq (.cond (.tmp 103) (.skip) (.exit 2)) (.seq (.block 3 none (.seq (.region [⟨some 104, .indexAddr none 2 (.tmp 100) (.tmp 102), none, 0⟩, ⟨some 105, .load true 2 (.tmp 104), none, 1⟩, ⟨some 19, .alloc 3 [(.int .u8 0), (.xsl 0 1 [])], none, 0⟩, ⟨none, .store 2 (.tmp 19) (.tmp 105), none, 7⟩] false) (.seq (.region [⟨some 107, .move (.tmp 10), none, 0⟩, ⟨some 108, .call true 34 4 [(.tmp 107)], none, 1⟩, ⟨some 106, .move (.tmp 108), none, 3⟩, ⟨some 109, .extract (.tmp 106) 0, none, 7⟩, ⟨some 110, .extract (.tmp 106) 1, none, 7⟩, ⟨some 111, .extract (.tmp 106) 2, none, 7⟩, ⟨some 20, .alloc 4 [(.int .u8 0), (.xsl 0 1 [])], none, 0⟩, ⟨none, .store 2 (.tmp 20) (.tmp 109), none, 79⟩, ⟨some 21, .assign (.tmp 110), none, 223⟩, ⟨some 22, .assign (.tmp 111), none, 511⟩] false) (.seq (.seq (.region [⟨some 112, .move (.tmp 22), none, 0⟩, ⟨some 113, .eq true (.num) (.tmp 112) (.val (.int .i64 0)), none, 1⟩, ⟨some 114, .move (.tmp 113), none, 3⟩, ⟨some 115, .fieldAddr 0 (.tmp 20), some (114, false), 7⟩, ⟨some 116, .load false 1 (.tmp 115), some (114, false), 15⟩, ⟨some 117, .fieldAddr 0 (.tmp 19), some (114, false), 7⟩, ⟨some 118, .load false 1 (.tmp 117), some (114, false), 39⟩, ⟨some 119, .eq true (.num) (.tmp 116) (.tmp 118), some (114, false), 127⟩, ⟨some 120, .pick (.tmp 114) (.val (.bool true)) (.tmp 119), none, 255⟩, ⟨some 121, .move (.tmp 120), none, 511⟩, ⟨some 122, .fieldAddr 1 (.tmp 20), some (121, false), 1023⟩, ⟨some 123, .load false 1 (.tmp 122), some (121, false), 2047⟩, ⟨some 124, .conv (.text) (.tmp 123), some (121, false), 4095⟩, ⟨some 125, .fieldAddr 1 (.tmp 19), some (121, false), 1023⟩, ⟨some 126, .load false 1 (.tmp 125), some (121, false), 9215⟩, ⟨some 127, .conv (.text) (.tmp 126), some (121, false), 25599⟩, ⟨some 128, .eq true (.num) (.tmp 124) (.tmp 127), some (121, false), 65535⟩, ⟨some 129, .pick (.tmp 121) (.val (.bool true)) (.tmp 128), none, 131071⟩, ⟨some 130, .move (.tmp 129), none, 262143⟩, ⟨some 131, .move (.tmp 21), some (130, false), 524287⟩, ⟨some 132, .move (.tmp 10), some (130, false), 524287⟩, ⟨some 133, .len (.slc 1) (.tmp 132), some (130, false), 1572863⟩, ⟨some 134, .bin (.gtr) (.tmp 131) (.tmp 133), some (130, false), 4194303⟩, ⟨some 135, .pick (.tmp 130) (.val (.bool true)) (.tmp 134), none, 8388607⟩] false) (.cond (.tmp 135) (.seq (.region [⟨some 4, .assign (.val (.bool false)), none, 0⟩] false) (.ret)) (.skip))) (.region [⟨some 136, .move (.tmp 10), none, 0⟩, ⟨some 137, .move (.tmp 21), none, 0⟩, ⟨some 138, .slice (.slc 1) (.tmp 136) (some (.tmp 137)) none none, none, 3⟩, ⟨some 10, .assign (.tmp 138), none, 7⟩] false))))) (.region [⟨some 139, .bin (.add) (.tmp 102) (.val (.int .i64 1)), none, 0⟩, ⟨some 102, .move (.tmp 139), none, 1⟩] false))))))) (.seq (.region [⟨some 140, .move (.tmp 10), none, 0⟩, ⟨some 141, .len (.slc 1) (.tmp 140), none, 1⟩, ⟨some 142, .eq false (.num) (.tmp 141) (.val (.int .i64 0)), none, 3⟩, ⟨some 4, .assign (.tmp 142), none, 7⟩] false) (.ret)))))))))
abbrev v9 : VFunc := { nparams := 2, ntmps := 143, nsites := 5, results := [.tmp 4], body := b9 }
abbrev fr (a : Nat × List Nat) : V := .agg [.int .u8 (a.1 : Int), .isl 0 1 (byN a.2)]
abbrev cat (l : List (Nat × List Nat)) : List Nat := l.flatMap fun a => frameN a.1 a.2
def bodyA1 : VCode := (.seq (.region [⟨some 69, .bin (.lss) (.tmp 68) (.tmp 67), none, 0⟩] false) (.seq (.cond (.tmp 69) (.skip) (.exit 0)) (.seq (.block 1 none (.seq (.region [⟨some 70, .indexAddr none 2 (.tmp 66) (.tmp 68), none, 0⟩, ⟨some 71, .load true 2 (.tmp 70), none, 1⟩, ⟨some 12, .alloc 1 [(.int .u8 0), (.xsl 0 1 [])], none, 0⟩, ⟨none, .store 2 (.tmp 12) (.tmp 71), none, 7⟩] false) (.seq (.seq (.region [⟨some 72, .fieldAddr 1 (.tmp 12), none, 0⟩, ⟨some 73, .load false 1 (.tmp 72), none, 1⟩, ⟨some 74, .len (.slc 1) (.tmp 73), none, 3⟩, ⟨some 75, .bin (.gtr) (.tmp 74) (.val (.int .i64 300)), none, 7⟩] false) (.cond (.tmp 75) (.seq (.region [⟨some 4, .assign (.val (.bool true)), none, 0⟩] false) (.ret)) (.skip))) (.seq (.region [⟨some 77, .load true 2 (.tmp 12), none, 0⟩, ⟨some 78, .call true 32 2 [(.tmp 77)], none, 1⟩, ⟨some 76, .move (.tmp 78), none, 3⟩, ⟨some 79, .extract (.tmp 76) 0, none, 7⟩, ⟨some 80, .extract (.tmp 76) 1, none, 7⟩, ⟨some 13, .assign (.tmp 79), none, 15⟩, ⟨some 14, .assign (.tmp 80), none, 63⟩] false) (.seq (.seq (.region [⟨some 81, .move (.tmp 13), none, 0⟩, ⟨some 82, .len (.slc 1) (.tmp 81), none, 1⟩, ⟨some 83, .bin (.lss) (.tmp 82) (.val (.int .i64 1)), none, 3⟩] false) (.cond (.tmp 83) (.seq (.region [⟨some 4, .assign (.val (.bool false)), none, 0⟩] false) (.ret)) (.skip))) (.seq (.region [⟨some 85, .move (.tmp 13), none, 0⟩, ⟨some 86, .move (.tmp 13), none, 0⟩, ⟨some 87, .len (.slc 1) (.tmp 86), none, 2⟩, ⟨some 88, .bin (.sub) (.tmp 87) (.val (.int .i64 1)), none, 6⟩, ⟨some 89, .slice (.slc 1) (.tmp 85) none (some (.tmp 88)) none, none, 15⟩, ⟨some 90, .call true 34 2 [(.tmp 89)], none, 31⟩, ⟨some 84, .move (.tmp 90), none, 63⟩, ⟨some 91, .extract (.tmp 84) 0, none, 127⟩, ⟨some 92, .extract (.tmp 84) 1, none, 127⟩, ⟨some 93, .extract (.tmp 84) 2, none, 127⟩, ⟨some 15, .alloc 2 [(.int .u8 0), (.xsl 0 1 [])], none, 0⟩, ⟨none, .store 2 (.tmp 15) (.tmp 91), none, 1279⟩, ⟨some 16, .assign (.tmp 92), none, 3583⟩, ⟨some 17, .assign (.tmp 93), none, 8191⟩] false) (.seq (.seq (.region [⟨some 94, .move (.tmp 17), none, 0⟩, ⟨some 95, .eq true (.num) (.tmp 94) (.val (.int .i64 61)), none, 1⟩] false) (.cond (.tmp 95) (.seq (.region [⟨some 4, .assign (.val (.bool false)), none, 0⟩] false) (.ret)) (.skip))) (.region [⟨some 96, .move (.tmp 10), none, 0⟩, ⟨some 97, .move (.tmp 13), none, 0⟩, ⟨some 98, .append 1 1 (.tmp 96) (.tmp 97), none, 3⟩, ⟨some 10, .assign (.tmp 98), none, 7⟩] false)))))))) (.region [⟨some 99, .bin (.add) (.tmp 68) (.val (.int .i64 1)), none, 0⟩, ⟨some 68, .move (.tmp 99), none, 1⟩] false))))
def bodyA2 : VCode := (.seq (.region [⟨some 103, .bin (.lss) (.tmp 102) (.tmp 101), none, 0⟩] false) (.seq (.cond (.tmp 103) (.skip) (.exit 2)) (.seq (.block 3 none (.seq (.region [⟨some 104, .indexAddr none 2 (.tmp 100) (.tmp 102), none, 0⟩, ⟨some 105, .load true 2 (.tmp 104), none, 1⟩, ⟨some 19, .alloc 3 [(.int .u8 0), (.xsl 0 1 [])], none, 0⟩, ⟨none, .store 2 (.tmp 19) (.tmp 105), none, 7⟩] false) (.seq (.region [⟨some 107, .move (.tmp 10), none, 0⟩, ⟨some 108, .call true 34 4 [(.tmp 107)], none, 1⟩, ⟨some 106, .move (.tmp 108), none, 3⟩, ⟨some 109, .extract (.tmp 106) 0, none, 7⟩, ⟨some 110, .extract (.tmp 106) 1, none, 7⟩, ⟨some 111, .extract (.tmp 106) 2, none, 7⟩, ⟨some 20, .alloc 4 [(.int .u8 0), (.xsl 0 1 [])], none, 0⟩, ⟨none, .store 2 (.tmp 20) (.tmp 109), none, 79⟩, ⟨some 21, .assign (.tmp 110), none, 223⟩, ⟨some 22, .assign (.tmp 111), none, 511⟩] false) (.seq (.seq (.region [⟨some 112, .move (.tmp 22), none, 0⟩, ⟨some 113, .eq true (.num) (.tmp 112) (.val (.int .i64 0)), none, 1⟩, ⟨some 114, .move (.tmp 113), none, 3⟩, ⟨some 115, .fieldAddr 0 (.tmp 20), some (114, false), 7⟩, ⟨some 116, .load false 1 (.tmp 115), some (114, false), 15⟩, ⟨some 117, .fieldAddr 0 (.tmp 19), some (114, false), 7⟩, ⟨some 118, .load false 1 (.tmp 117), some (114, false), 39⟩, ⟨some 119, .eq true (.num) (.tmp 116) (.tmp 118), some (114, false), 127⟩, ⟨some 120, .pick (.tmp 114) (.val (.bool true)) (.tmp 119), none, 255⟩, ⟨some 121, .move (.tmp 120), none, 511⟩, ⟨some 122, .fieldAddr 1 (.tmp 20), some (121, false), 1023⟩, ⟨some 123, .load false 1 (.tmp 122), some (121, false), 2047⟩, ⟨some 124, .conv (.text) (.tmp 123), some (121, false), 4095⟩, ⟨some 125, .fieldAddr 1 (.tmp 19), some (121, false), 1023⟩, ⟨some 126, .load false 1 (.tmp 125), some (121, false), 9215⟩, ⟨some 127, .conv (.text) (.tmp 126), some (121, false), 25599⟩, ⟨some 128, .eq true (.num) (.tmp 124) (.tmp 127), some (121, false), 65535⟩, ⟨some 129, .pick (.tmp 121) (.val (.bool true)) (.tmp 128), none, 131071⟩, ⟨some 130, .move (.tmp 129), none, 262143⟩, ⟨some 131, .move (.tmp 21), some (130, false), 524287⟩, ⟨some 132, .move (.tmp 10), some (130, false), 524287⟩, ⟨some 133, .len (.slc 1) (.tmp 132), some (130, false), 1572863⟩, ⟨some 134, .bin (.gtr) (.tmp 131) (.tmp 133), some (130, false), 4194303⟩, ⟨some 135, .pick (.tmp 130) (.val (.bool true)) (.tmp 134), none, 8388607⟩] false) (.cond (.tmp 135) (.seq (.region [⟨some 4, .assign (.val (.bool false)), none, 0⟩] false) (.ret)) (.skip))) (.region [⟨some 136, .move (.tmp 10), none, 0⟩, ⟨some 137, .move (.tmp 21), none, 0⟩, ⟨some 138, .slice (.slc 1) (.tmp 136) (some (.tmp 137)) none none, none, 3⟩, ⟨some 10, .assign (.tmp 138), none, 7⟩] false))))) (.region [⟨some 139, .bin (.add) (.tmp 102) (.val (.int .i64 1)), none, 0⟩, ⟨some 102, .move (.tmp 139), none, 1⟩] false))))
theorem apart_open (r : (Nat × List Nat) × Nat × Nat) : V.apart (openV r) = true := by simp [V.apart, V.leaves, V.cells, byN, V.noslice]
theorem apart_frm (l : List Nat) : V.apart (.tup [.fsl 0 1 (byN l), .int .i64 0]) = true := by simp [V.apart, V.leaves, V.cells, byN, V.noslice]
theorem open_err (b : List Nat) (k : Nat) (body : List Nat) (n e : Nat) (h : openN b = ((k, body), n, e)) (he : e ≠ 0) : n = 0 ∧ body = [] ∧ e < 256 := by
  unfold openN at h
  have ht : ∀ (s l : List Nat), tailN l s ≤ 62 := by
    intro s
    induction s with
    | nil => intro l; cases l <;> simp [tailN]
    | cons y s ih =>
      intro l
      cases l with
      | nil => simp [tailN]
      | cons x l => simp only [tailN]; split; exact ih l; omega
  have := ht (fourN (crc (b.take (3 + (dec 65536 0 0 (b.drop 3)).2.toNat + (dec 65536 0 0 (b.drop 3)).1.toNat)))) (b.drop (3 + (dec 65536 0 0 (b.drop 3)).2.toNat + (dec 65536 0 0 (b.drop 3)).1.toNat))
  simp only at h
  repeat' split at h
  all_goals
    simp only [Prod.mk.injEq] at h
    obtain ⟨⟨h1, h2⟩, h3, h4⟩ := h
    first | (exact ⟨h3.symm, h2.symm, by omega⟩) | (exact absurd h4.symm he)
theorem cat_take (l : List (Nat × List Nat)) (i : Nat) (h : i < l.length) : cat (l.take (i + 1)) = cat (l.take i) ++ frameN l[i].1 l[i].2 := by
  have h7 : l.take (i + 1) = l.take i ++ [l[i]] := by simp [List.take_append_getElem]
  unfold cat
  rw [h7, List.flatMap_append]
  simp
theorem cat_drop (l : List (Nat × List Nat)) (i : Nat) (h : i < l.length) : cat (l.drop i) = frameN l[i].1 l[i].2 ++ cat (l.drop (i + 1)) := by
  unfold cat
  rw [List.drop_eq_getElem_cons h, List.flatMap_cons]
theorem digN_len3 (n : Nat) (h : n ≤ 300) : (digN n).length ≤ 3 := by
  have := digN_len 2 n (by omega)
  omega
theorem frameN_lt {k : Nat} {body : List Nat} (hk : k < 256) (hb : ∀ x ∈ body, x < 256) : ∀ x ∈ frameN k body, x < 256 := by
  intro x hx
  rcases List.mem_append.1 hx with hx | hx
  · exact headN_lt hk hb x hx
  · simp [fourN] at hx; omega
def SA (l : List (Nat × List Nat)) (i : Nat) : St := ⟨(.gone 0 :: .isl 0 2 (l.map fr) :: .gone 0 :: .gone 0 :: .gone 0 :: .gone 0 :: .gone 0 :: .gone 0 :: .gone 0 :: .gone 0 :: .xsl 0 1 (byN (cat (l.take i))) :: .gone 0 :: .gone 0 :: .gone 0 :: .gone 0 :: .gone 0 :: .gone 0 :: .gone 0 :: .gone 0 :: .gone 0 :: .gone 0 :: .gone 0 :: .gone 0 :: .gone 0 :: .gone 0 :: .gone 0 :: .gone 0 :: .gone 0 :: .gone 0 :: .gone 0 :: .gone 0 :: .gone 0 :: .gone 0 :: .gone 0 :: .gone 0 :: .gone 0 :: .gone 0 :: .gone 0 :: .gone 0 :: .gone 0 :: .gone 0 :: .gone 0 :: .gone 0 :: .gone 0 :: .gone 0 :: .gone 0 :: .gone 0 :: .gone 0 :: .gone 0 :: .gone 0 :: .gone 0 :: .gone 0 :: .gone 0 :: .gone 0 :: .gone 0 :: .gone 0 :: .gone 0 :: .gone 0 :: .gone 0 :: .gone 0 :: .gone 0 :: .gone 0 :: .gone 0 :: .gone 0 :: .gone 0 :: .gone 0 :: .isl 0 2 (l.map fr) :: .int .i64 l.length :: .int .i64 i :: .gone 0 :: .gone 0 :: .gone 0 :: .gone 0 :: .gone 0 :: .gone 0 :: .gone 0 :: .gone 0 :: .gone 0 :: .gone 0 :: .gone 0 :: .gone 0 :: .gone 0 :: .gone 0 :: .gone 0 :: .gone 0 :: .gone 0 :: .gone 0 :: .gone 0 :: .gone 0 :: .gone 0 :: .gone 0 :: .gone 0 :: .gone 0 :: .gone 0 :: .gone 0 :: .gone 0 :: .gone 0 :: .gone 0 :: .gone 0 :: .gone 0 :: .gone 0 :: .gone 0 :: .gone 0 :: .gone 0 :: .gone 0 :: .gone 0 :: .gone 0 :: .gone 0 :: .gone 0 :: .gone 0 :: .gone 0 :: .gone 0 :: .gone 0 :: .gone 0 :: .gone 0 :: .gone 0 :: .gone 0 :: .gone 0 :: .gone 0 :: .gone 0 :: .gone 0 :: .gone 0 :: .gone 0 :: .gone 0 :: .gone 0 :: .gone 0 :: .gone 0 :: .gone 0 :: .gone 0 :: .gone 0 :: .gone 0 :: .gone 0 :: .gone 0 :: .gone 0 :: .gone 0 :: .gone 0 :: .gone 0 :: .gone 0 :: .gone 0 :: .gone 0 :: .gone 0 :: .gone 0 :: .gone 0 :: []), [none, none, none, none, none]⟩
def SB (l : List (Nat × List Nat)) (i : Nat) : St := ⟨(.gone 0 :: .isl 0 2 (l.map fr) :: .gone 0 :: .gone 0 :: .gone 0 :: .gone 0 :: .gone 0 :: .gone 0 :: .gone 0 :: .gone 0 :: .xsl 0 1 (byN (cat (l.drop i))) :: .gone 0 :: .gone 0 :: .gone 0 :: .gone 0 :: .gone 0 :: .gone 0 :: .gone 0 :: .gone 0 :: .gone 0 :: .gone 0 :: .gone 0 :: .gone 0 :: .gone 0 :: .gone 0 :: .gone 0 :: .gone 0 :: .gone 0 :: .gone 0 :: .gone 0 :: .gone 0 :: .gone 0 :: .gone 0 :: .gone 0 :: .gone 0 :: .gone 0 :: .gone 0 :: .gone 0 :: .gone 0 :: .gone 0 :: .gone 0 :: .gone 0 :: .gone 0 :: .gone 0 :: .gone 0 :: .gone 0 :: .gone 0 :: .gone 0 :: .gone 0 :: .gone 0 :: .gone 0 :: .gone 0 :: .gone 0 :: .gone 0 :: .gone 0 :: .gone 0 :: .gone 0 :: .gone 0 :: .gone 0 :: .gone 0 :: .gone 0 :: .gone 0 :: .gone 0 :: .gone 0 :: .gone 0 :: .gone 0 :: .gone 0 :: .gone 0 :: .gone 0 :: .gone 0 :: .gone 0 :: .gone 0 :: .gone 0 :: .gone 0 :: .gone 0 :: .gone 0 :: .gone 0 :: .gone 0 :: .gone 0 :: .gone 0 :: .gone 0 :: .gone 0 :: .gone 0 :: .gone 0 :: .gone 0 :: .gone 0 :: .gone 0 :: .gone 0 :: .gone 0 :: .gone 0 :: .gone 0 :: .gone 0 :: .gone 0 :: .gone 0 :: .gone 0 :: .gone 0 :: .gone 0 :: .gone 0 :: .gone 0 :: .gone 0 :: .isl 0 2 (l.map fr) :: .int .i64 l.length :: .int .i64 i :: .gone 0 :: .gone 0 :: .gone 0 :: .gone 0 :: .gone 0 :: .gone 0 :: .gone 0 :: .gone 0 :: .gone 0 :: .gone 0 :: .gone 0 :: .gone 0 :: .gone 0 :: .gone 0 :: .gone 0 :: .gone 0 :: .gone 0 :: .gone 0 :: .gone 0 :: .gone 0 :: .gone 0 :: .gone 0 :: .gone 0 :: .gone 0 :: .gone 0 :: .gone 0 :: .gone 0 :: .gone 0 :: .gone 0 :: .gone 0 :: .gone 0 :: .gone 0 :: .gone 0 :: .gone 0 :: .gone 0 :: .gone 0 :: .gone 0 :: .gone 0 :: .gone 0 :: .gone 0 :: []), [none, none, none, none, none]⟩
section
variable (G : VProg)
theorem alone0 (hG : G 9 = some (.code v9)) (ha : Vq.lim G 31 [] [] = some (.bool true, []))
    (hO : ∀ b : List Nat, (∀ x ∈ b, x < 256) → b.length < 2 ^ 31 → Vq.lim G 34 [.isl 0 1 (byN b)] [] = some (openV (openN b), []))
    (hF : ∀ (k : Nat) (body : List Nat), k < 256 → (∀ x ∈ body, x < 256) → body.length ≤ 65536 → Vq.lim G 32 [.agg [.int .u8 k, .isl 0 1 (byN body)]] [] = some (.tup [.fsl 0 1 (byN (frameN k body)), .int .i64 0], []))
    (b : List Nat) (hb : ∀ x ∈ b, x < 256) (l : List (Nat × List Nat)) (hl : ∀ a ∈ l, a.1 < 256 ∧ ∀ x ∈ a.2, x < 256) :
    Vq.lim G 9 [.isl 0 1 (byN b), .isl 0 2 (l.map fr)] [] = some (.bool true, []) := by
  cases hb1 : decide (2000 < (b.length : Int))
  case true => exact lim_fun hG (h := runV hb1 trivial trivial)
  cases hb2 : decide (8 < (l.length : Int))
  case true => exact lim_fun hG (h := runV (And.intro hb1 hb2) trivial trivial)
  have hs : l.length ≤ 8 := by simp at hb2; omega
  have hbl : b.length ≤ 2000 := by simp at hb1; omega
  have h1 := hO b hb (by omega)
  obtain ⟨⟨⟨k, body⟩, n, e⟩, hr⟩ : ∃ r, openN b = r := ⟨_, rfl⟩
  rw [hr] at h1
  have hmid : (e = 0 ∨ e ≠ 0) := by omega
  rcases hmid with he | he
  case' inl =>
    subst he
    obtain ⟨g1, g2, g3, g4, g5⟩ := open_inv b hb k body n hr
    have h2 := hF k body g5 g4 g2
    have c1 : ((n : Int) ≤ (b.length : Int)) := by omega
    have e1 : List.take n b = frameN k body := g1.symm
    obtain ⟨t, ht⟩ : ∃ t, t = frameN k body := ⟨_, rfl⟩
    rw [← ht] at h2 e1
    have e3 : textV (byN t) = some (strN t) := textV_by _
    have a1 := apart_open ((k, body), n, 0)
    have a2 := apart_frm t
    refine lim_fun hG (h := runV (And.intro hb1 (And.intro hb2 (And.intro e1 e3))) (And.intro c1 (And.intro a1 a2)) ?_)
    clear h1 h2 e1 e3 a1 a2
  case' inr =>
    obtain ⟨rfl, rfl, he2⟩ := open_err b k body n e hr he
    have c0 : ((e : Int) == 0) = false := by simp; omega
    have a1 := apart_open ((k, []), 0, e)
    refine lim_fun hG (h := runV (And.intro hb1 (And.intro hb2 c0)) a1 ?_)
    clear h1 a1
  all_goals
    refine WL_loop (SA l) (fun i => i ≤ l.length ∧ (cat (l.take i)).length ≤ i * 310 ∧ ∀ a ∈ l.take i, a.2.length ≤ 300) (fun i => l.length - i) ?_ 0 _ ⟨Nat.zero_le _, by simp [cat], by simp⟩ (by kernel_rfl)
    rintro i ⟨h3, h4, h5⟩
    by_cases hi : i < l.length
    · have h6 := cat_take l i hi
      obtain ⟨m1, m2⟩ := hl _ (List.getElem_mem hi)
      have h7 : l.take (i + 1) = l.take i ++ [l[i]] := by simp [List.take_append_getElem]
      obtain ⟨⟨kd, bd⟩, hx⟩ : ∃ x, x = l[i] := ⟨_, rfl⟩
      rw [← hx] at h6 m1 m2 h7
      simp only at h6 m1 m2
      have hg : (l.map fr)[i]? = some (fr (kd, bd)) := by rw [hx]; simp [hi]
      have hlt : decide ((i : Int) < (l.length : Int)) = true := by simp; omega
      have hadd := inc64 i (by omega)
      have F := And.intro hlt (And.intro hadd hg)
      obtain ⟨u, hu⟩ : ∃ u, u = cat (l.take i) := ⟨_, rfl⟩
      obtain ⟨u', hu'⟩ : ∃ u, u = cat (l.take (i + 1)) := ⟨_, rfl⟩
      unfold SA
      rw [← hu] at h4 h6 ⊢
      rw [← hu'] at h6
      cases h8 : decide (300 < (bd.length : Int))
      case true =>
        refine runV (And.intro h8 F) trivial ?_
        exact Qr_r (Qb_r (Qs_r (Qe_r (by kernel_rfl))))
      have h8' : bd.length ≤ 300 := by simp at h8; omega
      have f1 := hF kd bd m1 m2 (by omega)
      have f2 := open_short kd bd (by omega)
      have f3 := frameN_len kd bd
      have f4 := digN_len3 _ h8'
      have f5 : ∀ x ∈ frameN kd bd, x < 256 := frameN_lt m1 m2
      obtain ⟨t, ht⟩ : ∃ t, t = frameN kd bd := ⟨_, rfl⟩
      rw [← ht] at f1 f2 f3 f5 h6
      obtain ⟨s, hs2⟩ : ∃ s, s = t.take (t.length - 1) := ⟨_, rfl⟩
      have f6 := hO s (fun x hx => f5 x (by rw [hs2] at hx; exact List.mem_of_mem_take hx)) (by rw [hs2]; simp; omega)
      rw [← hs2] at f2
      rw [f2] at f6
      have a1 := apart_open ((0, []), 0, 61)
      have a2 := apart_frm t
      have c1 : decide ((t.length : Int) < 1) = false := by simp; omega
      have s1 : IntKind.i64.wrap ((t.length : Int) - 1) = ((t.length - 1 : Nat) : Int) := by rw [wrapi64 _ (by omega) (by omega)]; omega
      have e1 : List.take (t.length - 1) t = s := hs2.symm
      have e2 : byN u ++ byN t = byN u' := by rw [h6, byN_app]
      have hul : u.length + t.length = u'.length := by rw [h6]; simp
      refine runV (And.intro h8 (And.intro c1 (And.intro s1 (And.intro e1 (And.intro e2 (And.intro hul F)))))) (And.intro a1 a2) ?_
      exact Qr_n (i + 1) (by rw [hu']; kernel_rfl) ⟨⟨by omega, by rw [← hu']; omega, fun a ha => by
        rw [h7] at ha
        rcases List.mem_append.1 ha with ha | ha
        · exact h5 a ha
        · simp at ha; rw [ha]; exact h8'⟩, by omega⟩
    · obtain rfl : i = l.length := by omega
      have h300 : ∀ a ∈ l, a.2.length ≤ 300 := fun a ha => h5 a (by rw [List.take_length]; exact ha)
      have hlt : decide ((l.length : Int) < (l.length : Int)) = false := by simp
      rw [List.take_length] at h4
      unfold SA
      rw [List.take_length]
      refine runV hlt trivial ?_
      refine Qr_x ?_
      refine Qb_x (σ1 := ⟨(.gone 0 :: .isl 0 2 (l.map fr) :: .gone 0 :: .gone 0 :: .gone 0 :: .gone 0 :: .gone 0 :: .gone 0 :: .gone 0 :: .gone 0 :: .xsl 0 1 (byN (cat l)) :: .gone 0 :: .gone 0 :: .gone 0 :: .gone 0 :: .gone 0 :: .gone 0 :: .gone 0 :: .gone 0 :: .gone 0 :: .gone 0 :: .gone 0 :: .gone 0 :: .gone 0 :: .gone 0 :: .gone 0 :: .gone 0 :: .gone 0 :: .gone 0 :: .gone 0 :: .gone 0 :: .gone 0 :: .gone 0 :: .gone 0 :: .gone 0 :: .gone 0 :: .gone 0 :: .gone 0 :: .gone 0 :: .gone 0 :: .gone 0 :: .gone 0 :: .gone 0 :: .gone 0 :: .gone 0 :: .gone 0 :: .gone 0 :: .gone 0 :: .gone 0 :: .gone 0 :: .gone 0 :: .gone 0 :: .gone 0 :: .gone 0 :: .gone 0 :: .gone 0 :: .gone 0 :: .gone 0 :: .gone 0 :: .gone 0 :: .gone 0 :: .gone 0 :: .gone 0 :: .gone 0 :: .gone 0 :: .gone 0 :: .gone 0 :: .gone 0 :: .gone 0 :: .gone 0 :: .gone 0 :: .gone 0 :: .gone 0 :: .gone 0 :: .gone 0 :: .gone 0 :: .gone 0 :: .gone 0 :: .gone 0 :: .gone 0 :: .gone 0 :: .gone 0 :: .gone 0 :: .gone 0 :: .gone 0 :: .gone 0 :: .gone 0 :: .gone 0 :: .gone 0 :: .gone 0 :: .gone 0 :: .gone 0 :: .gone 0 :: .gone 0 :: .gone 0 :: .gone 0 :: .gone 0 :: .gone 0 :: .gone 0 :: .gone 0 :: .gone 0 :: .gone 0 :: .gone 0 :: .gone 0 :: .gone 0 :: .gone 0 :: .gone 0 :: .gone 0 :: .gone 0 :: .gone 0 :: .gone 0 :: .gone 0 :: .gone 0 :: .gone 0 :: .gone 0 :: .gone 0 :: .gone 0 :: .gone 0 :: .gone 0 :: .gone 0 :: .gone 0 :: .gone 0 :: .gone 0 :: .gone 0 :: .gone 0 :: .gone 0 :: .gone 0 :: .gone 0 :: .gone 0 :: .gone 0 :: .gone 0 :: .gone 0 :: .gone 0 :: .gone 0 :: .gone 0 :: .gone 0 :: .gone 0 :: .gone 0 :: .gone 0 :: .gone 0 :: .gone 0 :: .gone 0 :: .gone 0 :: []), [none, none, none, none, none]⟩) (by kernel_rfl) ?_
      refine runV trivial trivial ?_
      refine WL_loop (SB l) (fun i => i ≤ l.length) (fun i => l.length - i) ?_ 0 _ (Nat.zero_le _) (by kernel_rfl)
      rintro i hi0
      by_cases hi : i < l.length
      · have h6 := cat_drop l i hi
        obtain ⟨m1, m2⟩ := hl _ (List.getElem_mem hi)
        have m3 := h300 _ (List.getElem_mem hi)
        obtain ⟨⟨kd, bd⟩, hx⟩ : ∃ x, x = l[i] := ⟨_, rfl⟩
        rw [← hx] at h6 m1 m2 m3
        simp only at h6 m1 m2 m3
        have hg : (l.map fr)[i]? = some (fr (kd, bd)) := by rw [hx]; simp [hi]
        have hlt : decide ((i : Int) < (l.length : Int)) = true := by simp; omega
        have hadd := inc64 i (by omega)
        have hsub : (cat (l.drop i)).length ≤ (cat l).length := by
          have : cat l = cat (l.take i) ++ cat (l.drop i) := by unfold cat; rw [← List.flatMap_append, List.take_append_drop]
          rw [this]; simp
        have hcb : ∀ x ∈ cat (l.drop i), x < 256 := fun x hx => by
          obtain ⟨a, ha, hx⟩ := List.mem_flatMap.1 hx
          obtain ⟨q1, q2⟩ := hl a (List.mem_of_mem_drop ha)
          exact frameN_lt q1 q2 x hx
        have f6 := hO (cat (l.drop i)) hcb (by omega)
        have f7 := open_frame kd bd (cat (l.drop (i + 1))) (by omega)
        rw [← h6] at f7
        rw [f7] at f6
        have a1 := apart_open ((kd, bd), (frameN kd bd).length, 0)
        have f3 := frameN_len kd bd
        obtain ⟨u, hu⟩ : ∃ u, u = cat (l.drop i) := ⟨_, rfl⟩
        obtain ⟨u', hu'⟩ : ∃ u, u = cat (l.drop (i + 1)) := ⟨_, rfl⟩
        obtain ⟨t, ht⟩ : ∃ t, t = frameN kd bd := ⟨_, rfl⟩
        unfold SB
        rw [← hu] at h6 f6 hsub hcb ⊢
        rw [← hu'] at h6
        rw [← ht] at h6 f6 a1 f3
        have hul : u.length = t.length + u'.length := by rw [h6]; simp
        have c1 : decide ((u.length : Int) < (t.length : Int)) = false := by simp; omega
        have e1 : List.take (u.length - t.length) (List.drop t.length (byN u)) = byN u' := by rw [byN_sub', h6, List.drop_left, List.take_of_length_le (by simp)]
        have e3 : textV (byN bd) = some (strN bd) := textV_by _
        refine runV (And.intro hlt (And.intro hadd (And.intro hg (And.intro c1 (And.intro e1 e3))))) a1 ?_
        exact Qr_n (i + 1) (by rw [hu']; kernel_rfl) ⟨by omega, by omega⟩
      · obtain rfl : i = l.length := by omega
        have hlt : decide ((l.length : Int) < (l.length : Int)) = false := by simp
        have hz : cat (l.drop l.length) = [] := by simp [cat]
        unfold SB
        rw [hz]
        refine runV hlt trivial ?_
        refine Qr_x ?_
        refine Qb_x (σ1 := ⟨(.gone 0 :: .gone 0 :: .gone 0 :: .gone 0 :: .gone 0 :: .gone 0 :: .gone 0 :: .gone 0 :: .gone 0 :: .gone 0 :: .xsl 0 1 (byN []) :: .gone 0 :: .gone 0 :: .gone 0 :: .gone 0 :: .gone 0 :: .gone 0 :: .gone 0 :: .gone 0 :: .gone 0 :: .gone 0 :: .gone 0 :: .gone 0 :: .gone 0 :: .gone 0 :: .gone 0 :: .gone 0 :: .gone 0 :: .gone 0 :: .gone 0 :: .gone 0 :: .gone 0 :: .gone 0 :: .gone 0 :: .gone 0 :: .gone 0 :: .gone 0 :: .gone 0 :: .gone 0 :: .gone 0 :: .gone 0 :: .gone 0 :: .gone 0 :: .gone 0 :: .gone 0 :: .gone 0 :: .gone 0 :: .gone 0 :: .gone 0 :: .gone 0 :: .gone 0 :: .gone 0 :: .gone 0 :: .gone 0 :: .gone 0 :: .gone 0 :: .gone 0 :: .gone 0 :: .gone 0 :: .gone 0 :: .gone 0 :: .gone 0 :: .gone 0 :: .gone 0 :: .gone 0 :: .gone 0 :: .gone 0 :: .gone 0 :: .gone 0 :: .gone 0 :: .gone 0 :: .gone 0 :: .gone 0 :: .gone 0 :: .gone 0 :: .gone 0 :: .gone 0 :: .gone 0 :: .gone 0 :: .gone 0 :: .gone 0 :: .gone 0 :: .gone 0 :: .gone 0 :: .gone 0 :: .gone 0 :: .gone 0 :: .gone 0 :: .gone 0 :: .gone 0 :: .gone 0 :: .gone 0 :: .gone 0 :: .gone 0 :: .gone 0 :: .gone 0 :: .gone 0 :: .gone 0 :: .gone 0 :: .gone 0 :: .gone 0 :: .gone 0 :: .gone 0 :: .gone 0 :: .gone 0 :: .gone 0 :: .gone 0 :: .gone 0 :: .gone 0 :: .gone 0 :: .gone 0 :: .gone 0 :: .gone 0 :: .gone 0 :: .gone 0 :: .gone 0 :: .gone 0 :: .gone 0 :: .gone 0 :: .gone 0 :: .gone 0 :: .gone 0 :: .gone 0 :: .gone 0 :: .gone 0 :: .gone 0 :: .gone 0 :: .gone 0 :: .gone 0 :: .gone 0 :: .gone 0 :: .gone 0 :: .gone 0 :: .gone 0 :: .gone 0 :: .gone 0 :: .gone 0 :: .gone 0 :: .gone 0 :: .gone 0 :: .gone 0 :: .gone 0 :: .gone 0 :: []), [none, none, none, none, none]⟩) (by kernel_rfl) ?_
        exact runV trivial trivial trivial
end
end P1
end Go.Vq

