/- A machine of values and its tie to the model, and runs of it: part 20 of 18 (no law of Go is stated here). -/
import Derived.Test.YtbbpandancpibaaF19
set_option linter.unusedVariables false
set_option linter.unusedSimpArgs false
set_option linter.unusedSectionVars false
namespace Go.Vq
namespace P1
open Go
set_option maxRecDepth 1000000
set_option maxHeartbeats 8000000
abbrev b63 : VCode := .seq (.region [⟨some 2, .assign (.val (.int .i64 0)), none, 0⟩] false) (.seq (.region [⟨some 3, .move (.tmp 0), none, 0⟩, ⟨some 4, .bin (.add) (.tmp 3) (.val (.int .i64 48)), none, 1⟩, ⟨some 5, .bin (.sub) (.tmp 4) (.val (.int .i64 1)), none, 3⟩, ⟨some 6, .bin (.quo) (.tmp 5) (.val (.int .i64 48)), none, 7⟩, ⟨some 2, .assign (.tmp 6), none, 15⟩] false) (.ret))
abbrev v63 : VFunc := { nparams := 1, ntmps := 7, nsites := 0, results := [.tmp 2], body := b63 }
abbrev b38 : VCode := .seq (.region [⟨some 2, .assign (.val (.int .i64 0)), none, 0⟩] false) (.seq (.seq (.region [⟨some 5, .move (.tmp 0), none, 0⟩, ⟨some 6, .bin (.lss) (.tmp 5) (.val (.int .i64 0)), none, 1⟩, ⟨some 7, .move (.tmp 6), none, 3⟩, ⟨some 8, .move (.tmp 0), some (7, false), 7⟩, ⟨some 9, .bin (.gtr) (.tmp 8) (.val (.int .i64 65536)), some (7, false), 15⟩, ⟨some 10, .pick (.tmp 7) (.val (.bool true)) (.tmp 9), none, 31⟩] false) (.cond (.tmp 10) (.seq (.region [⟨some 2, .assign (.val (.int .i64 0)), none, 0⟩] false) (.ret)) (.skip))) (.seq (.region [⟨some 12, .move (.tmp 0), none, 0⟩, ⟨some 13, .makeSlice 1 1 (.int .u8 0) (.tmp 12) (.tmp 12), none, 1⟩, ⟨some 14, .build [(.int .u8 0), (.nilS 1)] [(1, 1, (.tmp 13))], none, 3⟩, ⟨some 15, .call true 62 0 [(.tmp 14)], none, 7⟩, ⟨some 11, .move (.tmp 15), none, 15⟩, ⟨some 16, .extract (.tmp 11) 0, none, 31⟩, ⟨some 17, .extract (.tmp 11) 1, none, 31⟩, ⟨some 3, .assign (.tmp 16), none, 63⟩, ⟨some 4, .assign (.tmp 17), none, 255⟩] false) (.seq (.region [⟨some 18, .move (.tmp 3), none, 0⟩, ⟨some 19, .len (.slc 1) (.tmp 18), none, 1⟩, ⟨some 20, .call true 63 0 [(.tmp 19)], none, 3⟩, ⟨some 2, .assign (.tmp 20), none, 7⟩] false) (.ret))))
abbrev v38 : VFunc := { nparams := 1, ntmps := 21, nsites := 0, results := [.tmp 2], body := b38 }
abbrev b8 : VCode := .seq (.region [⟨some 2, .assign (.val (.bool false)), none, 0⟩] false) (.seq (.seq (.region [⟨some 5, .call true 33 0 [], none, 0⟩, ⟨some 6, .un (.not) (.tmp 5), none, 1⟩] false) (.cond (.tmp 6) (.seq (.region [⟨some 2, .assign (.val (.bool false)), none, 0⟩] false) (.ret)) (.skip))) (.seq (.seq (.region [⟨some 7, .move (.tmp 0), none, 0⟩, ⟨some 8, .bin (.lss) (.tmp 7) (.val (.int .i64 0)), none, 1⟩, ⟨some 9, .move (.tmp 8), none, 3⟩, ⟨some 10, .move (.tmp 0), some (9, false), 7⟩, ⟨some 11, .bin (.geq) (.tmp 10) (.val (.int .i64 65536)), some (9, false), 15⟩, ⟨some 12, .pick (.tmp 9) (.val (.bool true)) (.tmp 11), none, 31⟩] false) (.cond (.tmp 12) (.seq (.region [⟨some 13, .move (.tmp 0), none, 0⟩, ⟨some 14, .call true 38 0 [(.tmp 13)], none, 1⟩, ⟨some 15, .eq false (.num) (.tmp 14) (.val (.int .i64 0)), none, 3⟩, ⟨some 16, .move (.tmp 15), none, 7⟩, ⟨some 17, .move (.tmp 0), some (16, false), 15⟩, ⟨some 18, .eq false (.num) (.tmp 17) (.val (.int .i64 65536)), some (16, false), 31⟩, ⟨some 19, .pick (.tmp 16) (.val (.bool true)) (.tmp 18), none, 63⟩, ⟨some 2, .assign (.tmp 19), none, 127⟩] false) (.ret)) (.skip))) (.seq (.region [⟨some 20, .move (.tmp 0), none, 0⟩, ⟨some 21, .call true 38 0 [(.tmp 20)], none, 1⟩, ⟨some 22, .move (.tmp 0), none, 0⟩, ⟨some 23, .bin (.add) (.tmp 22) (.val (.int .i64 1)), none, 4⟩, ⟨some 24, .call true 38 0 [(.tmp 23)], none, 15⟩, ⟨some 3, .assign (.tmp 21), none, 31⟩, ⟨some 4, .assign (.tmp 24), none, 63⟩] false) (.seq (.region [⟨some 25, .move (.tmp 3), none, 0⟩, ⟨some 26, .move (.tmp 4), none, 0⟩, ⟨some 27, .bin (.leq) (.tmp 25) (.tmp 26), none, 3⟩, ⟨some 28, .move (.tmp 27), none, 7⟩, ⟨some 29, .move (.tmp 4), some (28, true), 15⟩, ⟨some 30, .move (.tmp 3), some (28, true), 15⟩, ⟨some 31, .bin (.add) (.tmp 30) (.val (.int .i64 1)), some (28, true), 47⟩, ⟨some 32, .bin (.leq) (.tmp 29) (.tmp 31), some (28, true), 127⟩, ⟨some 33, .pick (.tmp 28) (.tmp 32) (.val (.bool false)), none, 255⟩, ⟨some 34, .move (.tmp 33), none, 511⟩, ⟨some 35, .move (.tmp 3), some (34, true), 1023⟩, ⟨some 36, .bin (.mul) (.val (.int .i64 48)) (.tmp 35), some (34, true), 2047⟩, ⟨some 37, .move (.tmp 0), some (34, true), 1023⟩, ⟨some 38, .bin (.add) (.tmp 37) (.val (.int .i64 8)), some (34, true), 5119⟩, ⟨some 39, .bin (.geq) (.tmp 36) (.tmp 38), some (34, true), 16383⟩, ⟨some 40, .pick (.tmp 34) (.tmp 39) (.val (.bool false)), none, 32767⟩, ⟨some 41, .move (.tmp 40), none, 65535⟩, ⟨some 42, .move (.tmp 3), some (41, true), 131071⟩, ⟨some 43, .bin (.sub) (.tmp 42) (.val (.int .i64 1)), some (41, true), 262143⟩, ⟨some 44, .bin (.mul) (.val (.int .i64 48)) (.tmp 43), some (41, true), 524287⟩, ⟨some 45, .move (.tmp 0), some (41, true), 131071⟩, ⟨some 46, .bin (.add) (.tmp 45) (.val (.int .i64 10)), some (41, true), 1179647⟩, ⟨some 47, .bin (.lss) (.tmp 44) (.tmp 46), some (41, true), 4194303⟩, ⟨some 48, .pick (.tmp 41) (.tmp 47) (.val (.bool false)), none, 8388607⟩, ⟨some 2, .assign (.tmp 48), none, 16777215⟩] false) (.ret)))))
abbrev v8 : VFunc := { nparams := 1, ntmps := 49, nsites := 0, results := [.tmp 2], body := b8 }
def cellsN (b : Nat) : Nat := (b + 47) / 48
theorem digN_bd (n : Nat) (h : n ≤ 65536) : (digN n).length = if n < 128 then 1 else if n < 16384 then 2 else 3 := by
  by_cases h1 : n < 128
  · rw [digN_lo h1, if_pos h1]; rfl
  · rw [digN_hi (by omega), if_neg h1]
    by_cases h2 : n < 16384
    · rw [digN_lo (n := n / 128) (by omega), if_pos h2]; rfl
    · rw [digN_hi (n := n / 128) (by omega), digN_lo (n := n / 128 / 128) (by omega), if_neg h2]; rfl
def flen (n : Nat) : Nat := 7 + (digN n).length + n
theorem flen_bd (n : Nat) (h : n ≤ 65536) : n + 8 ≤ flen n ∧ flen n ≤ n + 10 := by
  unfold flen
  rw [digN_bd n h]
  split
  · omega
  · split <;> omega
section
variable (G : VProg)
theorem rcells (hG : G 63 = some (.code v63)) (n : Nat) (hn : n < 2 ^ 40) : lim G 63 [.int .i64 n] [] = some (.int .i64 (cellsN n : Nat), []) := by
  have h1 : IntKind.i64.wrap ((n : Int) + 48) = ((n + 48 : Nat) : Int) := by rw [wrapi64 _ (by omega) (by omega)]; omega
  have h2 : IntKind.i64.wrap (((n + 48 : Nat) : Int) - 1) = ((n + 47 : Nat) : Int) := by rw [wrapi64 _ (by omega) (by omega)]; omega
  have h3 : IntKind.i64.wrap (((n + 47 : Nat) : Int).tdiv 48) = ((cellsN n : Nat) : Int) := by
    rw [Int.tdiv_eq_ediv_of_nonneg (by omega), wrapi64 _ (by omega) (by omega)]; unfold cellsN; omega
  exact lim_fun hG (h := runV (And.intro h1 (And.intro h2 h3)) trivial trivial)
theorem rCells (hG : G 38 = some (.code v38)) (hC : ∀ n : Nat, n < 2 ^ 40 → lim G 63 [.int .i64 n] [] = some (.int .i64 (cellsN n : Nat), []))
    (hF : ∀ (k : Nat) (_ : k < 256) (body : List Nat) (_ : ∀ x ∈ body, x < 256) (_ : body.length ≤ 65536), lim G 62 [.agg [.int .u8 k, .isl 0 1 (byN body)]] [] = some (.tup [.fsl 0 1 (byN (frameN k body)), .int .i64 0], []))
    (n : Int) : lim G 38 [.int .i64 n] [] = some (.int .i64 (if n < 0 ∨ 65536 < n then 0 else (cellsN (flen n.toNat) : Nat)), []) := by
  cases b1 : decide (n < 0)
  case true =>
    simp only [decide_eq_true_eq] at b1
    rw [if_pos (.inl b1)]
    have b1 : decide (n < 0) = true := by simpa using b1
    exact lim_fun hG (h := runV b1 trivial trivial)
  cases b2 : decide (65536 < n)
  case true =>
    simp only [decide_eq_true_eq] at b2
    rw [if_pos (.inr b2)]
    have b2 : decide (65536 < n) = true := by simpa using b2
    exact lim_fun hG (h := runV (And.intro b1 b2) trivial trivial)
  have k1 : ¬ n < 0 := by simpa using b1
  have k2 : ¬ 65536 < n := by simpa using b2
  rw [if_neg (by omega)]
  obtain ⟨m, rfl⟩ : ∃ m : Nat, n = m := ⟨n.toNat, by omega⟩
  simp only [Int.toNat_natCast]
  have t1 := hF 0 (by decide) (List.replicate m 0) (fun x hx => by rw [List.eq_of_mem_replicate hx]; decide) (by simp; omega)
  have hlen : (frameN 0 (List.replicate m 0)).length = flen m := by rw [frameN_len, List.length_replicate]; rfl
  have hbd := flen_bd m (by omega)
  obtain ⟨fr, hfr⟩ : ∃ fr, fr = frameN 0 (List.replicate m 0) := ⟨_, rfl⟩
  rw [← hfr] at t1 hlen
  have t2 := hC (flen m) (by omega)
  have e1 : List.replicate m (V.int .u8 0) = byN (List.replicate m 0) := byN_rep m
  obtain ⟨z, hz⟩ : ∃ z, z = List.replicate m 0 := ⟨_, rfl⟩
  rw [← hz] at t1 e1
  obtain ⟨c, hc⟩ : ∃ c, c = cellsN (flen m) := ⟨_, rfl⟩
  rw [← hc] at t2 ⊢
  have ap : V.apart (.tup [.fsl 0 1 (byN fr), .int .i64 0]) = true := by simp [V.apart, V.leaves, byN, V.noslice, V.cells]
  have m1 : (0 : Int) ≤ (m : Int) := by omega
  have m2 : (m : Int) * 1 ≤ 140737488355328 := by omega
  have m3 : (m : Int) < 9223372036854775808 := by omega
  exact lim_fun hG (h := runV (And.intro b1 (And.intro b2 (And.intro e1 (And.intro hlen (And.intro m1 (And.intro m2 m3)))))) (And.intro ap (And.intro m1 (And.intro m2 m3))) trivial)
theorem reelCells (hG : G 8 = some (.code v8)) (hA : Vq.lim G 33 [] [] = some (.bool true, []))
    (hC : ∀ n : Int, lim G 38 [.int .i64 n] [] = some (.int .i64 (if n < 0 ∨ 65536 < n then 0 else (cellsN (flen n.toNat) : Nat)), [])) (n : Int) : lim G 8 [.int .i64 n] [] = some (.bool true, []) := by
  have t1 := hC n
  cases b1 : decide (n < 0)
  case true =>
    rw [if_pos (.inl (by simpa using b1))] at t1
    exact lim_fun hG (h := runV b1 trivial trivial)
  cases b2 : decide ((65536 : Int) ≤ n)
  case true =>
    by_cases h : n = 65536
    · subst h
      have hz : (((if (65536 : Int) < 0 ∨ (65536 : Int) < 65536 then 0 else ((cellsN (flen (65536 : Int).toNat) : Nat) : Int)) : Int) == 0) = false := by decide +kernel
      obtain ⟨c, hc⟩ : ∃ c, c = (if (65536 : Int) < 0 ∨ (65536 : Int) < 65536 then 0 else ((cellsN (flen (65536 : Int).toNat) : Nat) : Int)) := ⟨_, rfl⟩
      rw [← hc] at t1 hz
      exact lim_fun hG (h := runV (And.intro b1 (And.intro b2 hz)) trivial trivial)
    · have h2 : 65536 ≤ n := by simpa using b2
      rw [if_pos (.inr (by omega))] at t1
      exact lim_fun hG (h := runV (And.intro b1 b2) trivial trivial)
  have k1 : ¬ n < 0 := by simpa using b1
  have k2 : ¬ 65536 ≤ n := by simpa using b2
  obtain ⟨m, rfl⟩ : ∃ m : Nat, n = m := ⟨n.toNat, by omega⟩
  have i1 : IntKind.i64.wrap ((m : Int) + 1) = ((m + 1 : Nat) : Int) := inc64 m (by omega)
  have t2 := hC ((m + 1 : Nat) : Int)
  rw [if_neg (by omega)] at t1 t2
  simp only [Int.toNat_natCast] at t1 t2
  obtain ⟨a, ha⟩ : ∃ a, a = cellsN (flen m) := ⟨_, rfl⟩
  obtain ⟨b, hb⟩ : ∃ b, b = cellsN (flen (m + 1)) := ⟨_, rfl⟩
  have q1 := flen_bd m (by omega)
  have q2 := flen_bd (m + 1) (by omega)
  have q3 : flen m + 1 ≤ flen (m + 1) ∧ flen (m + 1) ≤ flen m + 2 := by
    unfold flen
    rw [digN_bd m (by omega), digN_bd (m + 1) (by omega)]
    split <;> split <;> (try split) <;> (try split) <;> omega
  have q4 : a ≤ b ∧ b ≤ a + 1 ∧ m + 8 ≤ 48 * a ∧ 48 * (a - 1) < m + 10 ∧ a < 2000 ∧ 1 ≤ a := by
    rw [ha, hb]; unfold cellsN; omega
  rw [← ha] at t1
  rw [← hb] at t2
  obtain ⟨g1, g2, g3, g4, g5, g6⟩ := q4
  have c1 : decide ((a : Int) ≤ (b : Int)) = true := by simp; omega
  have c2 : IntKind.i64.wrap ((a : Int) + 1) = ((a + 1 : Nat) : Int) := inc64 a (by omega)
  have c3 : decide ((b : Int) ≤ ((a + 1 : Nat) : Int)) = true := by simp; omega
  have c4 : IntKind.i64.wrap (48 * (a : Int)) = ((48 * a : Nat) : Int) := by rw [wrapi64 _ (by omega) (by omega)]; omega
  have c5 : IntKind.i64.wrap ((m : Int) + 8) = ((m + 8 : Nat) : Int) := by rw [wrapi64 _ (by omega) (by omega)]; omega
  have c6 : decide (((m + 8 : Nat) : Int) ≤ ((48 * a : Nat) : Int)) = true := by simp only [decide_eq_true_eq]; omega
  have c7 : IntKind.i64.wrap ((a : Int) - 1) = ((a - 1 : Nat) : Int) := by rw [wrapi64 _ (by omega) (by omega)]; omega
  have c8 : IntKind.i64.wrap (48 * ((a - 1 : Nat) : Int)) = ((48 * (a - 1) : Nat) : Int) := by rw [wrapi64 _ (by omega) (by omega)]; omega
  have c9 : IntKind.i64.wrap ((m : Int) + 10) = ((m + 10 : Nat) : Int) := by rw [wrapi64 _ (by omega) (by omega)]; omega
  have c10 : decide (((48 * (a - 1) : Nat) : Int) < ((m + 10 : Nat) : Int)) = true := by simp only [decide_eq_true_eq]; omega
  clear ha hb q1 q2 q3
  exact lim_fun hG (h := runV (And.intro b1 (And.intro b2 (And.intro i1 (And.intro c1 (And.intro c2 (And.intro c3 (And.intro c4 (And.intro c5 (And.intro c6 (And.intro c7 (And.intro c8 (And.intro c9 c10)))))))))))) trivial trivial)
end
end P1
end Go.Vq
namespace Go.Vq
namespace P1
open Go
set_option maxRecDepth 1000000
set_option maxHeartbeats 8000000
abbrev b83 : VCode := .seq (.region [⟨some 4, .assign (.val (.nilS 1)), none, 0⟩] false) (.seq (.seq (.region [⟨some 5, .move (.tmp 1), none, 0⟩, ⟨some 6, .bin (.lss) (.tmp 5) (.val (.int .i64 0)), none, 1⟩] false) (.cond (.tmp 6) (.region [⟨some 7, .iface 9 (.val (.str [99, 97, 110, 110, 111, 116, 32, 98, 101, 32, 110, 101, 103, 97, 116, 105, 118, 101])), none, 0⟩, ⟨none, .stuck, none, 1⟩] false) (.skip))) (.seq (.seq (.region [⟨some 8, .move (.tmp 1), none, 0⟩, ⟨some 9, .move (.tmp 0), none, 0⟩, ⟨some 10, .cap (.tmp 9), none, 2⟩, ⟨some 11, .move (.tmp 0), none, 0⟩, ⟨some 12, .len (.slc 1) (.tmp 11), none, 8⟩, ⟨some 13, .bin (.sub) (.tmp 10) (.tmp 12), none, 30⟩, ⟨some 14, .bin (.sub) (.tmp 8) (.tmp 13), none, 63⟩, ⟨some 1, .assign (.tmp 14), none, 127⟩] false) (.seq (.region [⟨some 15, .move (.tmp 1), none, 0⟩, ⟨some 16, .bin (.gtr) (.tmp 15) (.val (.int .i64 0)), none, 1⟩] false) (.cond (.tmp 16) (.region [⟨some 17, .move (.tmp 0), none, 0⟩, ⟨some 18, .move (.tmp 0), none, 0⟩, ⟨some 19, .cap (.tmp 18), none, 2⟩, ⟨some 20, .slice (.slc 1) (.tmp 17) none (some (.tmp 19)) none, none, 7⟩, ⟨some 21, .move (.tmp 1), none, 0⟩, ⟨some 22, .appendZ 1 1 (.int .u8 0) (.tmp 20) (.tmp 21), none, 31⟩, ⟨some 23, .move (.tmp 0), none, 0⟩, ⟨some 24, .len (.slc 1) (.tmp 23), none, 64⟩, ⟨some 25, .slice (.slc 1) (.tmp 22) none (some (.tmp 24)) none, none, 255⟩, ⟨some 0, .assign (.tmp 25), none, 511⟩] false) (.skip)))) (.seq (.region [⟨some 26, .move (.tmp 0), none, 0⟩, ⟨some 4, .assign (.tmp 26), none, 1⟩] false) (.ret))))
abbrev v83 : VFunc := { nparams := 2, ntmps := 27, nsites := 0, results := [.tmp 4], body := b83 }
abbrev b72 : VCode := .seq (.region [⟨some 2, .assign (.val (.nilS 1)), none, 0⟩] false) (.seq (.region [⟨some 3, .assign (.val (.int .i64 0)), none, 0⟩] false) (.seq (.seq (.region [⟨some 9, .move (.tmp 0), none, 0⟩, ⟨some 10, .len (.slc 1) (.tmp 9), none, 1⟩, ⟨some 11, .move (.val (.int .i64 0)), none, 0⟩] false) (.block 0 (some [0, 3]) (.loop (some [0, 3, 9, 10, 11]) (.seq (.region [⟨some 12, .bin (.lss) (.tmp 11) (.tmp 10), none, 0⟩] false) (.seq (.cond (.tmp 12) (.skip) (.exit 0)) (.seq (.block 1 none (.seq (.region [⟨some 13, .indexAddr none 1 (.tmp 9) (.tmp 11), none, 0⟩, ⟨some 14, .load false 1 (.tmp 13), none, 1⟩, ⟨some 5, .assign (.tmp 14), none, 3⟩] false) (.seq (.region [⟨some 15, .move (.tmp 3), none, 0⟩, ⟨some 16, .move (.tmp 5), none, 0⟩, ⟨some 17, .len (.slc 1) (.tmp 16), none, 2⟩, ⟨some 18, .bin (.add) (.tmp 15) (.tmp 17), none, 7⟩, ⟨some 3, .assign (.tmp 18), none, 15⟩] false) (.seq (.region [⟨some 19, .move (.tmp 3), none, 0⟩, ⟨some 20, .bin (.lss) (.tmp 19) (.val (.int .i64 0)), none, 1⟩] false) (.cond (.tmp 20) (.region [⟨some 21, .iface 9 (.val (.str [108, 101, 110, 32, 111, 117, 116, 32, 111, 102, 32, 114, 97, 110, 103, 101])), none, 0⟩, ⟨none, .stuck, none, 1⟩] false) (.skip)))))) (.region [⟨some 22, .bin (.add) (.tmp 11) (.val (.int .i64 1)), none, 0⟩, ⟨some 11, .move (.tmp 22), none, 1⟩] false))))))) (.seq (.region [⟨some 23, .move (.tmp 3), none, 0⟩, ⟨some 24, .callm 1 83 0 [(.val (.nilS 1)), (.tmp 23)], none, 1⟩, ⟨some 6, .assign (.tmp 24), none, 3⟩] false) (.seq (.seq (.region [⟨some 25, .move (.tmp 0), none, 0⟩, ⟨some 26, .len (.slc 1) (.tmp 25), none, 1⟩, ⟨some 27, .move (.val (.int .i64 0)), none, 0⟩] false) (.block 2 (some [6]) (.loop (some [0, 6, 25, 26, 27]) (.seq (.region [⟨some 28, .bin (.lss) (.tmp 27) (.tmp 26), none, 0⟩] false) (.seq (.cond (.tmp 28) (.skip) (.exit 2)) (.seq (.block 3 none (.seq (.region [⟨some 29, .indexAddr none 1 (.tmp 25) (.tmp 27), none, 0⟩, ⟨some 30, .load false 1 (.tmp 29), none, 1⟩, ⟨some 8, .assign (.tmp 30), none, 3⟩] false) (.region [⟨some 31, .move (.tmp 6), none, 0⟩, ⟨some 32, .move (.tmp 8), none, 0⟩, ⟨some 33, .append 1 1 (.tmp 31) (.tmp 32), none, 3⟩, ⟨some 6, .assign (.tmp 33), none, 7⟩] false))) (.region [⟨some 34, .bin (.add) (.tmp 27) (.val (.int .i64 1)), none, 0⟩, ⟨some 27, .move (.tmp 34), none, 1⟩] false))))))) (.seq (.region [⟨some 35, .move (.tmp 6), none, 0⟩, ⟨some 2, .assign (.tmp 35), none, 1⟩] false) (.ret))))))
abbrev v72 : VFunc := { nparams := 1, ntmps := 36, nsites := 0, results := [.tmp 2], body := b72 }
def SCa (ls : List (List Nat)) (i : Nat) : St := ⟨(.isl 0 1 (ls.map iB) :: .gone 0 :: .gone 0 :: .int .i64 ((ls.take i).flatten.length : Nat) :: .gone 0 :: .gone 0 :: .gone 0 :: .gone 0 :: .gone 0 :: .isl 0 1 (ls.map iB) :: .int .i64 ls.length :: .int .i64 i :: .gone 0 :: .gone 0 :: .gone 0 :: .gone 0 :: .gone 0 :: .gone 0 :: .gone 0 :: .gone 0 :: .gone 0 :: .gone 0 :: .gone 0 :: .gone 0 :: .gone 0 :: .gone 0 :: .gone 0 :: .gone 0 :: .gone 0 :: .gone 0 :: .gone 0 :: .gone 0 :: .gone 0 :: .gone 0 :: .gone 0 :: .gone 0 :: []), []⟩
def SCb (ls : List (List Nat)) (i : Nat) : St := ⟨(.isl 0 1 (ls.map iB) :: .gone 0 :: .gone 0 :: .gone 0 :: .gone 0 :: .gone 0 :: .xsl 0 1 (byN (ls.take i).flatten) :: .gone 0 :: .gone 0 :: .gone 0 :: .gone 0 :: .gone 0 :: .gone 0 :: .gone 0 :: .gone 0 :: .gone 0 :: .gone 0 :: .gone 0 :: .gone 0 :: .gone 0 :: .gone 0 :: .gone 0 :: .gone 0 :: .gone 0 :: .gone 0 :: .isl 0 1 (ls.map iB) :: .int .i64 ls.length :: .int .i64 i :: .gone 0 :: .gone 0 :: .gone 0 :: .gone 0 :: .gone 0 :: .gone 0 :: .gone 0 :: .gone 0 :: []), []⟩
theorem take_flat (ls : List (List Nat)) (i : Nat) (h : i < ls.length) : (ls.take (i + 1)).flatten = (ls.take i).flatten ++ ls[i] := by
  rw [List.take_succ_eq_append_getElem h, List.flatten_append]; simp
theorem take_flat_le (ls : List (List Nat)) (i : Nat) : (ls.take i).flatten.length ≤ ls.flatten.length := by
  conv => rhs; rw [← List.take_append_drop i ls, List.flatten_append, List.length_append]
  exact Nat.le_add_right _ _
section
variable (G : VProg)
theorem grow0 (hG : G 83 = some (.code v83)) (n : Nat) (hn : n < 2 ^ 40) : lim G 83 [.nilS 1, .int .i64 n] [] = some (.xsl 0 1 [], []) := by
  have w1 : IntKind.i64.wrap ((n : Int) - 0) = (n : Int) := by rw [Int.sub_zero]; exact wrapi64 _ (by omega) (by omega)
  have c0 : decide ((n : Int) < 0) = false := by simp
  have w0 : IntKind.i64.wrap (0 - ((0 : Nat) : Int)) = 0 := by decide
  by_cases h : n = 0
  · subst h
    exact lim_fun hG (h := runV trivial trivial trivial)
  · have c1 : decide ((0 : Int) < (n : Int)) = true := by simp; omega
    have c2 : (0 : Int) < (n : Int) := by omega
    have c3 : (n : Int) * 1 ≤ 140737488355328 := by omega
    have c4 : (n : Int) < 9223372036854775808 := by omega
    exact lim_fun hG (h := runV (And.intro w0 (And.intro w1 (And.intro c0 (And.intro c1 (And.intro c2 (And.intro c3 c4)))))) (And.intro c2 (And.intro c3 c4)) trivial)
theorem concat (hG : G 72 = some (.code v72)) (hg : ∀ n : Nat, n < 2 ^ 40 → lim G 83 [.nilS 1, .int .i64 n] [] = some (.xsl 0 1 [], []))
    (ls : List (List Nat)) (h1 : ls.length < 2 ^ 40) (h2 : ls.flatten.length < 2 ^ 40) : lim G 72 [.isl 0 1 (ls.map iB)] [] = some (.xsl 0 1 (byN ls.flatten), []) := by
  refine lim_fun hG (h := runV trivial trivial ?_)
  refine WL_loop (SCa ls) (fun i => i ≤ ls.length) (fun i => ls.length - i) ?_ 0 _ (Nat.zero_le _) (by kernel_rfl)
  intro i hi
  by_cases hlt : i < ls.length
  · have c1 : decide ((i : Int) < (ls.length : Int)) = true := by simp; omega
    have i1 := inc64 i (by omega)
    have hf := take_flat ls i hlt
    have hle := take_flat_le ls (i + 1)
    obtain ⟨b, hb⟩ : ∃ b, b = ls[i] := ⟨_, rfl⟩
    have hg1 : (ls.map iB)[i]? = some (iB b) := by rw [hb]; simp [hlt]
    rw [← hb] at hf
    obtain ⟨s, hs⟩ : ∃ s, s = (ls.take i).flatten.length := ⟨_, rfl⟩
    have hs2 : (ls.take (i + 1)).flatten.length = s + b.length := by rw [hf, hs]; simp
    have w1 : IntKind.i64.wrap ((s : Int) + (b.length : Int)) = ((s + b.length : Nat) : Int) := by rw [wrapi64 _ (by omega) (by omega)]; omega
    have c2 : decide (((s + b.length : Nat) : Int) < 0) = false := by simp only [decide_eq_false_iff_not]; omega
    unfold SCa
    rw [← hs]
    refine runV (And.intro c1 (And.intro i1 (And.intro hg1 (And.intro w1 c2)))) trivial ?_
    exact Qr_n (i + 1) (by simp only [hs2]; kernel_rfl) ⟨by omega, by omega⟩
  · obtain rfl : i = ls.length := by omega
    have c1 : decide ((ls.length : Int) < (ls.length : Int)) = false := by simp
    have t1 := hg ls.flatten.length h2
    obtain ⟨N, hN⟩ : ∃ N, N = ls.flatten.length := ⟨_, rfl⟩
    rw [← hN] at t1
    unfold SCa
    rw [List.take_length, ← hN]
    refine runV c1 trivial ?_
    refine Qr_x ?_
    refine Qb_x (σ1 := ⟨(.isl 0 1 (ls.map iB) :: .gone 0 :: .gone 0 :: .int .i64 N :: .gone 0 :: .gone 0 :: .gone 0 :: .gone 0 :: .gone 0 :: .gone 0 :: .gone 0 :: .gone 0 :: .gone 0 :: .gone 0 :: .gone 0 :: .gone 0 :: .gone 0 :: .gone 0 :: .gone 0 :: .gone 0 :: .gone 0 :: .gone 0 :: .gone 0 :: .gone 0 :: .gone 0 :: .gone 0 :: .gone 0 :: .gone 0 :: .gone 0 :: .gone 0 :: .gone 0 :: .gone 0 :: .gone 0 :: .gone 0 :: .gone 0 :: .gone 0 :: []), []⟩) (by kernel_rfl) ?_
    refine runV trivial trivial ?_
    refine WL_loop (SCb ls) (fun i => i ≤ ls.length) (fun i => ls.length - i) ?_ 0 _ (Nat.zero_le _) (by kernel_rfl)
    intro i hi
    by_cases hlt : i < ls.length
    · have c1 : decide ((i : Int) < (ls.length : Int)) = true := by simp; omega
      have i1 := inc64 i (by omega)
      have hf := take_flat ls i hlt
      have hle := take_flat_le ls (i + 1)
      obtain ⟨b, hb⟩ : ∃ b, b = ls[i] := ⟨_, rfl⟩
      have hg1 : (ls.map iB)[i]? = some (iB b) := by rw [hb]; simp [hlt]
      rw [← hb] at hf
      obtain ⟨s, hs⟩ : ∃ s, s = (ls.take i).flatten := ⟨_, rfl⟩
      rw [← hs] at hf
      rw [hf] at hle
      simp only [List.length_append] at hle
      have w1 : (s.length + b.length) * 1 ≤ 140737488355328 := by omega
      have e1 : byN s ++ byN b = byN (s ++ b) := (byN_app _ _).symm
      unfold SCb
      rw [← hs]
      refine runV (And.intro c1 (And.intro i1 (And.intro hg1 (And.intro w1 e1)))) w1 ?_
      exact Qr_n (i + 1) (by simp only [hf]; kernel_rfl) ⟨by omega, by omega⟩
    · obtain rfl : i = ls.length := by omega
      have c1 : decide ((ls.length : Int) < (ls.length : Int)) = false := by simp
      obtain ⟨fl, hfl⟩ : ∃ fl, fl = ls.flatten := ⟨_, rfl⟩
      unfold SCb
      rw [List.take_length, ← hfl]
      refine runV c1 trivial ?_
      refine Qr_x ?_
      refine Qb_x (σ1 := ⟨(.gone 0 :: .gone 0 :: .gone 0 :: .gone 0 :: .gone 0 :: .gone 0 :: .xsl 0 1 (byN fl) :: .gone 0 :: .gone 0 :: .gone 0 :: .gone 0 :: .gone 0 :: .gone 0 :: .gone 0 :: .gone 0 :: .gone 0 :: .gone 0 :: .gone 0 :: .gone 0 :: .gone 0 :: .gone 0 :: .gone 0 :: .gone 0 :: .gone 0 :: .gone 0 :: .gone 0 :: .gone 0 :: .gone 0 :: .gone 0 :: .gone 0 :: .gone 0 :: .gone 0 :: .gone 0 :: .gone 0 :: .gone 0 :: .gone 0 :: []), []⟩) (by kernel_rfl) ?_
      refine runV trivial trivial ?_
      exact end_own rfl rfl rfl rfl (byN_len fl).symm
end
end P1
end Go.Vq
namespace Go.Vq
namespace P1
open Go
set_option maxRecDepth 1000000
set_option maxHeartbeats 8000000
abbrev b40 : VCode := .seq (.region [⟨some 2, .assign (.val (.bool false)), none, 0⟩] false) (.seq (.region [⟨some 3, .move (.tmp 0), none, 0⟩, ⟨some 4, .nilCheck (.tmp 3), none, 1⟩, ⟨some 5, .fieldAddr 4 (.tmp 4), none, 3⟩, ⟨some 6, .load false 1 (.tmp 5), none, 7⟩, ⟨some 2, .assign (.tmp 6), none, 15⟩] false) (.ret))
abbrev v40 : VFunc := { nparams := 1, ntmps := 7, nsites := 0, results := [.tmp 2], body := b40 }
abbrev b39 : VCode := .seq (.region [⟨some 2, .assign (.val (.int .i64 0)), none, 0⟩] false) (.seq (.seq (.region [⟨some 3, .move (.tmp 0), none, 0⟩, ⟨some 4, .nilCheck (.tmp 3), none, 1⟩, ⟨some 5, .fieldAddr 4 (.tmp 4), none, 3⟩, ⟨some 6, .load false 1 (.tmp 5), none, 7⟩, ⟨some 7, .un (.not) (.tmp 6), none, 15⟩] false) (.cond (.tmp 7) (.seq (.region [⟨some 2, .assign (.val (.int .i64 0)), none, 0⟩] false) (.ret)) (.skip))) (.seq (.region [⟨some 8, .move (.tmp 0), none, 0⟩, ⟨some 9, .nilCheck (.tmp 8), none, 1⟩, ⟨some 10, .fieldAddr 0 (.tmp 9), none, 3⟩, ⟨some 11, .load false 1 (.tmp 10), none, 7⟩, ⟨some 12, .call false 28 0 [(.tmp 11)], none, 15⟩, ⟨some 13, .move (.tmp 0), none, 0⟩, ⟨some 14, .nilCheck (.tmp 13), none, 32⟩, ⟨some 15, .fieldAddr 3 (.tmp 14), none, 96⟩, ⟨some 16, .load false 1 (.tmp 15), none, 224⟩, ⟨some 17, .bin (.sub) (.tmp 12) (.tmp 16), none, 511⟩, ⟨some 2, .assign (.tmp 17), none, 1023⟩] true) (.ret)))
abbrev v39 : VFunc := { nparams := 1, ntmps := 18, nsites := 0, results := [.tmp 2], body := b39 }
abbrev b37 : VCode := .seq (.region [⟨some 2, .assign (.val (.int .i64 0)), none, 0⟩] false) (.seq (.seq (.region [⟨some 4, .move (.tmp 0), none, 0⟩, ⟨some 5, .nilCheck (.tmp 4), none, 1⟩, ⟨some 6, .fieldAddr 4 (.tmp 5), none, 3⟩, ⟨some 7, .load false 1 (.tmp 6), none, 7⟩, ⟨some 8, .un (.not) (.tmp 7), none, 15⟩] false) (.cond (.tmp 8) (.seq (.region [⟨some 2, .assign (.val (.int .i64 91)), none, 0⟩] false) (.ret)) (.skip))) (.seq (.region [⟨some 9, .move (.tmp 0), none, 0⟩, ⟨some 10, .nilCheck (.tmp 9), none, 1⟩, ⟨some 11, .fieldAddr 0 (.tmp 10), none, 3⟩, ⟨some 12, .load false 1 (.tmp 11), none, 7⟩, ⟨some 13, .call false 19 0 [(.tmp 12)], none, 15⟩, ⟨some 3, .assign (.tmp 13), none, 31⟩] false) (.seq (.region [⟨some 14, .move (.tmp 0), none, 0⟩, ⟨some 15, .move (.tmp 3), none, 0⟩, ⟨some 16, .eq false (.num) (.tmp 15) (.val (.int .i64 0)), none, 2⟩, ⟨some 17, .nilCheck (.tmp 14), none, 7⟩, ⟨some 18, .fieldAddr 4 (.tmp 17), none, 15⟩, ⟨none, .store 1 (.tmp 18) (.tmp 16), none, 31⟩] false) (.seq (.region [⟨some 19, .move (.tmp 3), none, 0⟩, ⟨some 2, .assign (.tmp 19), none, 1⟩] false) (.ret)))))
abbrev v37 : VFunc := { nparams := 1, ntmps := 20, nsites := 0, results := [.tmp 2], body := b37 }
abbrev reelO (p : Nat) (side : Nat) (round : Nat) (at' : Nat) (ready : Bool) : Obj := .cells [.ptr (.obj p 0), .int .i64 (side : Int), .int .u64 (round : Int), .int .i64 (at' : Int), .bool ready]
section
variable (G : VProg)
theorem rready (hG : G 40 = some (.code v40)) (s r a b es fz ls off left) : lim G 40 [q0] [reelO 1 s r a b, plateO es fz ls off left] = some (.bool b, [reelO 1 s r a b, plateO es fz ls off left]) := by
  cases fz
  all_goals exact lim_fun hG (h := runV trivial trivial trivial)
def leftN (n a : Nat) (b : Bool) : Int := if b then (n / 2 : Nat) - (a : Int) else 0
theorem rleft (hG : G 39 = some (.code v39)) (hR : ∀ es fz ls off left, es.length < 2 ^ 40 → lim G 28 [q0] [plateO es fz ls off left] = some (.int .i64 ((es.length / 2 : Nat) : Int), [plateO es fz ls off left]))
    (s r a b es fz ls off left) (hn : es.length < 2 ^ 40) (ha : a < 2 ^ 40) : lim G 39 [q0] [reelO 1 s r a b, plateO es fz ls off left] = some (.int .i64 (leftN es.length a b), [reelO 1 s r a b, plateO es fz ls off left]) := by
  have t1 := hR es fz ls off left hn
  have w1 : IntKind.i64.wrap (((es.length / 2 : Nat) : Int) - (a : Int)) = ((es.length / 2 : Nat) : Int) - (a : Int) := wrapi64 _ (by omega) (by omega)
  unfold leftN
  obtain ⟨m, hm⟩ : ∃ m, m = es.length / 2 := ⟨_, rfl⟩
  rw [← hm] at t1 w1 ⊢
  cases b <;> cases fz
  all_goals exact lim_fun hG (h := runV w1 trivial trivial)
theorem rflushR (hG : G 37 = some (.code v37)) (hF : ∀ (es fz ls off left) (_ : ∀ c ∈ es, c.length = 64) (_ : ∀ w ∈ ls, w.1 < es.length ∧ w.2.length = 64) (_ : ls.length < 2 ^ 40) (_ : LR left),
    lim G 19 [q0] [plateO es fz ls off left] = if spO off left then some (.int .i64 72, [plateO es fz ls true left]) else some (.int .i64 0, [plateO (ls.foldl wr es) false [] false (spL off left)]))
    (s r a b es fz ls off left) (he : ∀ c ∈ es, c.length = 64) (hw : ∀ w ∈ ls, w.1 < es.length ∧ w.2.length = 64) (hl : ls.length < 2 ^ 40) (hlr : LR left) :
    lim G 37 [q0] [reelO 1 s r a b, plateO es fz ls off left] = if b then (if spO off left then some (.int .i64 72, [reelO 1 s r a false, plateO es fz ls true left]) else some (.int .i64 0, [reelO 1 s r a true, plateO (ls.foldl wr es) false [] false (spL off left)]))
      else some (.int .i64 91, [reelO 1 s r a b, plateO es fz ls off left]) := by
  have t1 := hF es fz ls off left he hw hl hlr
  cases b
  · cases fz
    all_goals exact lim_fun hG (h := runV trivial trivial trivial)
  · cases hs : spO off left
    · rw [hs] at t1
      simp only [Bool.false_eq_true, if_false, if_true] at t1 ⊢
      obtain ⟨e2, he2⟩ : ∃ e2, e2 = ls.foldl wr es := ⟨_, rfl⟩
      rw [← he2] at t1 ⊢
      cases fz
      all_goals exact lim_fun hG (h := runV trivial trivial trivial)
    · rw [hs] at t1
      simp only [if_true] at t1 ⊢
      cases fz
      all_goals exact lim_fun hG (h := runV trivial trivial trivial)
end
end P1
end Go.Vq
