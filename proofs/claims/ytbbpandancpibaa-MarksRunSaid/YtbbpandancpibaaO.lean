/- The V-level machine, run on values that are not known (no law of Go is stated here). -/
import Derived.Test.YtbbpandancpibaaN
import Derived.KernelRfl
set_option linter.unusedVariables false
set_option linter.unusedSimpArgs false
set_option linter.unusedSectionVars false
namespace Go.Vq
namespace P1
open Go
set_option maxRecDepth 1000000
set_option maxHeartbeats 8000000
abbrev b55 : VCode := .seq (.region [⟨some 6, .alloc 0 (Z8 64), none, 0⟩] false) (.seq (.region [⟨some 12, .build (Z8 64) [], none, 0⟩, ⟨some 7, .alloc 1 (Z8 64), none, 0⟩, ⟨none, .store 64 (.tmp 7) (.tmp 12), none, 3⟩] false) (.seq (.seq (.region [⟨some 13, .move (.tmp 2), none, 0⟩, ⟨some 14, .len (.slc 1) (.tmp 13), none, 1⟩, ⟨some 15, .move (.val (.int .i64 0)), none, 0⟩] false) (.block 0 (some [0, 1, 6, 7]) (.loop (some [0, 1, 2, 6, 7, 13, 14, 15]) (.seq (.region [⟨some 16, .bin (.lss) (.tmp 15) (.tmp 14), none, 0⟩] false) (.seq (.cond (.tmp 16) (.skip) (.exit 0)) (.seq (.block 1 none (.seq (.region [⟨some 17, .move (.tmp 15), none, 0⟩, ⟨some 18, .indexAddr none 1 (.tmp 13) (.tmp 15), none, 0⟩, ⟨some 19, .load false 1 (.tmp 18), none, 2⟩, ⟨some 8, .assign (.tmp 17), none, 7⟩, ⟨some 9, .assign (.tmp 19), none, 15⟩] false) (.region [⟨some 20, .move (.tmp 8), none, 0⟩, ⟨some 21, .bin (.add) (.val (.int .i64 8)) (.tmp 20), none, 1⟩, ⟨some 22, .move (.tmp 9), none, 0⟩, ⟨some 23, .indexAddr (some 64) 1 (.tmp 7) (.tmp 21), none, 7⟩, ⟨none, .store 1 (.tmp 23) (.tmp 22), none, 15⟩] false))) (.region [⟨some 24, .bin (.add) (.tmp 15) (.val (.int .i64 1)), none, 0⟩, ⟨some 15, .move (.tmp 24), none, 1⟩] false))))))) (.seq (.region [⟨some 25, .move (.tmp 0), none, 0⟩, ⟨some 26, .bin (.mul) (.val (.int .u64 65536)) (.tmp 25), none, 1⟩, ⟨some 27, .move (.tmp 1), none, 0⟩, ⟨some 28, .conv (.int (.u64)) (.tmp 27), none, 4⟩, ⟨some 29, .bin (.add) (.tmp 26) (.tmp 28), none, 15⟩, ⟨some 30, .bin (.add) (.tmp 29) (.val (.int .u64 1)), none, 31⟩, ⟨some 10, .assign (.tmp 30), none, 63⟩] false) (.seq (.seq (.region [⟨some 11, .assign (.val (.int .i64 0)), none, 0⟩] false) (.block 2 (some [6, 7]) (.loop (some [6, 7, 10, 11]) (.seq (.seq (.region [⟨some 31, .move (.tmp 11), none, 0⟩, ⟨some 32, .bin (.lss) (.tmp 31) (.val (.int .i64 8)), none, 1⟩] false) (.cond (.tmp 32) (.skip) (.exit 2))) (.seq (.block 3 none (.seq (.region [⟨some 35, .move (.tmp 11), none, 0⟩, ⟨some 36, .move (.tmp 10), none, 0⟩, ⟨some 37, .bin (.rem) (.tmp 36) (.val (.int .u64 256)), none, 2⟩, ⟨some 38, .conv (.int (.u8)) (.tmp 37), none, 6⟩, ⟨some 39, .indexAddr (some 64) 1 (.tmp 7) (.tmp 35), none, 15⟩, ⟨none, .store 1 (.tmp 39) (.tmp 38), none, 31⟩] false) (.seq (.region [⟨some 40, .move (.tmp 11), none, 0⟩, ⟨some 41, .bin (.add) (.val (.int .i64 56)) (.tmp 40), none, 1⟩, ⟨some 42, .move (.tmp 10), none, 0⟩, ⟨some 43, .bin (.rem) (.tmp 42) (.val (.int .u64 256)), none, 4⟩, ⟨some 44, .conv (.int (.u8)) (.tmp 43), none, 12⟩, ⟨some 45, .indexAddr (some 64) 1 (.tmp 7) (.tmp 41), none, 31⟩, ⟨none, .store 1 (.tmp 45) (.tmp 44), none, 63⟩] false) (.region [⟨some 46, .move (.tmp 10), none, 0⟩, ⟨some 47, .bin (.quo) (.tmp 46) (.val (.int .u64 256)), none, 1⟩, ⟨some 10, .assign (.tmp 47), none, 3⟩] false)))) (.region [⟨some 33, .move (.tmp 11), none, 0⟩, ⟨some 34, .bin (.add) (.tmp 33) (.val (.int .i64 1)), none, 1⟩, ⟨some 11, .assign (.tmp 34), none, 3⟩] false)))))) (.seq (.region [⟨some 48, .load true 64 (.tmp 7), none, 0⟩, ⟨none, .store 64 (.tmp 6) (.tmp 48), none, 1⟩] false) (.ret))))))
abbrev v55 : VFunc := { nparams := 3, ntmps := 49, nsites := 2, results := [.cell 6 true 64], body := b55 }
def cA (l : List Nat) (i : Nat) : List Nat := List.replicate 8 0 ++ (l.take i ++ List.replicate (56 - i) 0)
theorem cA_len {l : List Nat} (h : l.length ≤ 48) {i : Nat} (hi : i ≤ l.length) : (cA l i).length = 64 := by simp [cA]; omega
theorem cA_step {l : List Nat} (h : l.length ≤ 48) {i : Nat} (hi : i < l.length) : (cA l i).set (8 + i) l[i] = cA l (i + 1) := by
  unfold cA
  have e : List.replicate (56 - i) 0 = 0 :: List.replicate (56 - (i + 1)) 0 := by rw [show 56 - i = (56 - (i + 1)) + 1 by omega]; rfl
  have e2 : l.take (i + 1) = l.take i ++ [l[i]] := by simp [List.take_append_getElem]
  have hl : (l.take i).length = i := by simp; omega
  rw [List.set_append_right _ _ (by simp), List.length_replicate, show 8 + i - 8 = i by omega, List.set_append_right _ _ (by omega), hl, Nat.sub_self, e, List.set_cons_zero, e2]
  simp only [List.append_assoc, List.cons_append, List.nil_append]
theorem cA_end {n : Nat} {l : List Nat} (h : l.length ≤ 48) : cA l l.length = cPu n l 0 := by
  unfold cA cPu hd8 pad48
  simp only [List.take_length, List.take_zero, List.nil_append, Nat.sub_zero, List.append_assoc, List.replicate_append_replicate]
  congr 3
  omega
def SC1 (r a : Nat) (l : List Nat) (i : Nat) : St :=
  ⟨(.int .u64 r :: .int .i64 a :: .isl 0 1 (byN l) :: .gone 0 :: .gone 0 :: .gone 0 :: .ptr (.obj 0 0) :: .ptr (.obj 1 0) :: .gone 0 :: .gone 0 :: .gone 0 :: .gone 0 :: .gone 0 :: .isl 0 1 (byN l) :: .int .i64 l.length :: .int .i64 i :: .gone 0 :: .gone 0 :: .gone 0 :: .gone 0 :: .gone 0 :: .gone 0 :: .gone 0 :: .gone 0 :: .gone 0 :: .gone 0 :: .gone 0 :: .gone 0 :: .gone 0 :: .gone 0 :: .gone 0 :: .gone 0 :: .gone 0 :: .gone 0 :: .gone 0 :: .gone 0 :: .gone 0 :: .gone 0 :: .gone 0 :: .gone 0 :: .gone 0 :: .gone 0 :: .gone 0 :: .gone 0 :: .gone 0 :: .gone 0 :: .gone 0 :: .gone 0 :: .gone 0 :: []), [some (.cells (Z8 64)), some (.cells (byN (cA l i)))]⟩
def SC2 (n : Nat) (l : List Nat) (i : Nat) : St :=
  ⟨(.gone 0 :: .gone 0 :: .gone 0 :: .gone 0 :: .gone 0 :: .gone 0 :: .ptr (.obj 0 0) :: .ptr (.obj 1 0) :: .gone 0 :: .gone 0 :: .int .u64 ((n / 2 ^ (8 * i) : Nat) : Int) :: .int .i64 i :: .gone 0 :: .gone 0 :: .gone 0 :: .gone 0 :: .gone 0 :: .gone 0 :: .gone 0 :: .gone 0 :: .gone 0 :: .gone 0 :: .gone 0 :: .gone 0 :: .gone 0 :: .gone 0 :: .gone 0 :: .gone 0 :: .gone 0 :: .gone 0 :: .gone 0 :: .gone 0 :: .gone 0 :: .gone 0 :: .gone 0 :: .gone 0 :: .gone 0 :: .gone 0 :: .gone 0 :: .gone 0 :: .gone 0 :: .gone 0 :: .gone 0 :: .gone 0 :: .gone 0 :: .gone 0 :: .gone 0 :: .gone 0 :: .gone 0 :: []), [some (.cells (Z8 64)), some (.cells (byN (cPu n l i)))]⟩
section
variable (G : VProg)
theorem rcell (hG : G 55 = some (.code v55)) (r a : Nat) (hr : r ≤ 2 ^ 40) (ha : a < 2 ^ 30) (l : List Nat) (h : l.length ≤ 48) : lim G 55 [.int .u64 r, .int .i64 a, .isl 0 1 (byN l)] [] = some (cellV (cellM (mkN r a) l), []) := by
  have h1 : IntKind.u64.wrap (65536 * (r : Int)) = ((r * 65536 : Nat) : Int) := by
    have : 65536 * (r : Int) = ((r * 65536 : Nat) : Int) := by omega
    rw [this]; exact wrap64 _ (by omega)
  have h2 : IntKind.u64.wrap (a : Int) = (a : Int) := wrap64 _ (by omega)
  have h3 : IntKind.u64.wrap (((r * 65536 : Nat) : Int) + (a : Int)) = ((r * 65536 + a : Nat) : Int) := wrap64 (r * 65536 + a) (by omega)
  obtain ⟨n, hn⟩ : ∃ n, n = mkN r a := ⟨_, rfl⟩
  have hn64 : n < 2 ^ 64 := by rw [hn]; unfold mkN; omega
  have h4 : IntKind.u64.wrap (((r * 65536 + a : Nat) : Int) + 1) = (n : Int) := by rw [hn]; exact wrap64 (r * 65536 + a + 1) (by unfold mkN at hn; omega)
  rw [← hn]
  clear hn
  refine lim_fun hG (h := runV trivial trivial ?_)
  refine WL_loop (SC1 r a l) (fun i => i ≤ l.length) (fun i => l.length - i) ?_ 0 _ (Nat.zero_le _) (by unfold SC1 cA; kernel_rfl)
  intro i hi
  by_cases hlt0 : i < l.length
  · have hlt : decide ((i : Int) < (l.length : Int)) = true := by simp; omega
    have i1 := inc64 i (by omega)
    have i2 : IntKind.i64.wrap (8 + (i : Int)) = ((8 + i : Nat) : Int) := by rw [wrapi64 _ (by omega) (by omega)]; omega
    have hst := cA_step h hlt0
    have hl0 := cA_len h (show i ≤ l.length by omega)
    obtain ⟨x, hx⟩ : ∃ x, x = l[i] := ⟨_, rfl⟩
    have hg : (byN l)[i]? = some (.int .u8 (x : Int)) := by rw [hx]; exact byN_get l i hlt0
    rw [← hx] at hst
    obtain ⟨c, hc⟩ : ∃ c, c = cA l i := ⟨_, rfl⟩
    obtain ⟨c2, hc2⟩ : ∃ c, c = cA l (i + 1) := ⟨_, rfl⟩
    have hl2 : c2.length = 64 := by rw [hc2]; exact cA_len h (by omega)
    rw [← hc, ← hc2] at hst
    rw [← hc] at hl0
    have e1 := P1.byN_set c (8 + i) x (by omega)
    rw [hst] at e1
    have d1 : List.take 1 (List.drop (8 + i) (byN c)) = [V.int .u8 ((c.getD (8 + i) 0 : Nat) : Int)] := by exact P1.byN_one (by omega)
    unfold SC1
    rw [← hc]
    refine runV (And.intro hlt (And.intro i1 (And.intro i2 (And.intro hg (And.intro e1 (And.intro Nat.mul_one (cf hl0))))))) d1 ?_
    refine Qr_n (i + 1) ?_ ⟨by omega, by omega⟩
    simp only [← hc2]
    clear e1 hst hc2
    obtain ⟨g, rfl⟩ := exN hl2
    kernel_rfl
  · obtain rfl : i = l.length := by omega
    have hlt : decide ((l.length : Int) < (l.length : Int)) = false := by simp
    have hl0 := cA_len h (Nat.le_refl _)
    have hl1 := cPu_len (n := n) h (show 0 ≤ 8 by omega)
    unfold SC1
    rw [cA_end (n := n) h] at hl0 ⊢
    obtain ⟨c, hc⟩ : ∃ c, c = cPu n l 0 := ⟨_, rfl⟩
    rw [← hc] at hl0 ⊢
    refine runV (And.intro hlt (cf hl0)) trivial ?_
    refine Qr_x ?_
    refine Qb_x (σ1 := ⟨(.int .u64 r :: .int .i64 a :: .gone 0 :: .gone 0 :: .gone 0 :: .gone 0 :: .ptr (.obj 0 0) :: .ptr (.obj 1 0) :: .gone 0 :: .gone 0 :: .gone 0 :: .gone 0 :: .gone 0 :: .gone 0 :: .gone 0 :: .gone 0 :: .gone 0 :: .gone 0 :: .gone 0 :: .gone 0 :: .gone 0 :: .gone 0 :: .gone 0 :: .gone 0 :: .gone 0 :: .gone 0 :: .gone 0 :: .gone 0 :: .gone 0 :: .gone 0 :: .gone 0 :: .gone 0 :: .gone 0 :: .gone 0 :: .gone 0 :: .gone 0 :: .gone 0 :: .gone 0 :: .gone 0 :: .gone 0 :: .gone 0 :: .gone 0 :: .gone 0 :: .gone 0 :: .gone 0 :: .gone 0 :: .gone 0 :: .gone 0 :: .gone 0 :: []), [some (.cells (Z8 64)), some (.cells (byN c))]⟩) ?_ ?_
    · clear hc
      obtain ⟨g, rfl⟩ := exN hl0
      kernel_rfl
    refine runV (And.intro h1 (And.intro h2 (And.intro h3 (And.intro h4 (cf hl0))))) trivial ?_
    refine WL_loop (SC2 n l) (fun i => i ≤ 8) (fun i => 8 - i) ?_ 0 _ (Nat.zero_le _) ?_
    · intro i hi8
      by_cases hk8 : i < 8
      · have g1 : decide ((i : Int) < 8) = true := by simp; omega
        have g2 := inc64 i (by omega)
        have g9 : IntKind.i64.wrap (56 + (i : Int)) = ((56 + i : Nat) : Int) := by rw [wrapi64 _ (by omega) (by omega)]; omega
        have hst := cPu_step n l h i hk8
        have hl0 := cPu_len (n := n) h (show i ≤ 8 by omega)
        obtain ⟨m, hm⟩ : ∃ m, m = n / 2 ^ (8 * i) := ⟨_, rfl⟩
        have hm64 : m < 2 ^ 64 := by rw [hm]; exact Nat.lt_of_le_of_lt (Nat.div_le_self _ _) hn64
        have hm2 : n / 2 ^ (8 * (i + 1)) = m / 256 := by rw [hm, Nat.div_div_eq_div_mul, show 8 * (i + 1) = 8 * i + 8 by omega, Nat.pow_add]
        rw [← hm] at hst
        have g7 : (m : Int).tmod 256 = ((m % 256 : Nat) : Int) := by rw [Int.tmod_eq_emod_of_nonneg (by omega)]; rfl
        have g8 : IntKind.u8.wrap ((m % 256 : Nat) : Int) = ((m % 256 : Nat) : Int) := wrap8 _ (by omega)
        obtain ⟨m', hm'⟩ : ∃ m', m' = m / 256 := ⟨_, rfl⟩
        have g10 : IntKind.u64.wrap ((m : Int).tdiv 256) = (m' : Int) := by
          rw [Int.tdiv_eq_ediv_of_nonneg (by omega), hm']; exact wrap64 (m / 256) (by omega)
        rw [← hm'] at hm2
        obtain ⟨c, hc⟩ : ∃ c, c = cPu n l i := ⟨_, rfl⟩
        obtain ⟨c2, hc2⟩ : ∃ c, c = cPu n l (i + 1) := ⟨_, rfl⟩
        obtain ⟨b, hb⟩ : ∃ b, b = m % 256 := ⟨_, rfl⟩
        have hl2 : c2.length = 64 := by rw [hc2]; exact cPu_len h (by omega)
        rw [← hc, ← hb, ← hc2] at hst
        rw [← hc] at hl0
        rw [← hb] at g7 g8
        have e1 := P1.byN_set c i b (by omega)
        have e2 := P1.byN_set (c.set i b) (56 + i) b (by simp; omega)
        rw [hst] at e2
        obtain ⟨c1, hc1⟩ : ∃ c1, c1 = c.set i b := ⟨_, rfl⟩
        have hl1 : c1.length = 64 := by rw [hc1]; simp; omega
        rw [← hc1] at e1 e2
        have d1 : List.take 1 (List.drop i (byN c)) = [V.int .u8 ((c.getD i 0 : Nat) : Int)] := by exact P1.byN_one (by omega)
        have d2 : List.take 1 (List.drop (56 + i) (byN c1)) = [V.int .u8 ((c1.getD (56 + i) 0 : Nat) : Int)] := by exact P1.byN_one (by omega)
        unfold SC2
        rw [← hc, ← hm]
        refine runV (And.intro g1 (And.intro g2 (And.intro g7 (And.intro g8 (And.intro g9 (And.intro g10 (And.intro e1 (And.intro e2 (And.intro hl0 (And.intro hl1 Nat.mul_one)))))))))) (And.intro d1 d2) ?_
        refine Qr_n (i + 1) ?_ ⟨by omega, by omega⟩
        simp only [← hc2, hm2]
        clear e2 hst hc2
        obtain ⟨g, rfl⟩ := exN hl2
        kernel_rfl
      · obtain rfl : i = 8 := by omega
        have hc8 : cPu n l 8 = cellM n l := rfl
        have hlM : (cellM n l).length = 64 := by rw [← hc8]; exact cPu_len h (Nat.le_refl _)
        obtain ⟨cc, hcc⟩ : ∃ cc, cc = cellM n l := ⟨_, rfl⟩
        unfold SC2
        rw [hc8, ← hcc]
        rw [← hcc] at hlM
        obtain ⟨m, hm⟩ : ∃ m, m = n / 2 ^ (8 * 8) := ⟨_, rfl⟩
        rw [← hm]
        refine runV (cf hlM) trivial ?_
        refine Qr_x ?_
        refine Qb_x (σ1 := ⟨(.gone 0 :: .gone 0 :: .gone 0 :: .gone 0 :: .gone 0 :: .gone 0 :: .ptr (.obj 0 0) :: .ptr (.obj 1 0) :: .gone 0 :: .gone 0 :: .gone 0 :: .gone 0 :: .gone 0 :: .gone 0 :: .gone 0 :: .gone 0 :: .gone 0 :: .gone 0 :: .gone 0 :: .gone 0 :: .gone 0 :: .gone 0 :: .gone 0 :: .gone 0 :: .gone 0 :: .gone 0 :: .gone 0 :: .gone 0 :: .gone 0 :: .gone 0 :: .gone 0 :: .gone 0 :: .gone 0 :: .gone 0 :: .gone 0 :: .gone 0 :: .gone 0 :: .gone 0 :: .gone 0 :: .gone 0 :: .gone 0 :: .gone 0 :: .gone 0 :: .gone 0 :: .gone 0 :: .gone 0 :: .gone 0 :: .gone 0 :: .gone 0 :: []), [some (.cells (Z8 64)), some (.cells (byN cc))]⟩) ?_ ?_
        · clear hcc
          obtain ⟨g, rfl⟩ := exN hlM
          kernel_rfl
        refine runV (cf hlM) trivial ?_
        refine Qe_r ?_
        clear hcc
        obtain ⟨g, hgg⟩ := exN hlM
        rw [hgg]
        show _ = _
        kernel_rfl
    · unfold SC2
      rw [← hc]
      have e0 : n / 2 ^ (8 * 0) = n := by simp
      rw [e0]
      clear hc
      obtain ⟨g, rfl⟩ := exN hl0
      show _ = _
      kernel_rfl
end
end P1
end Go.Vq

namespace Go.Vq
namespace P1
open Go
set_option maxRecDepth 1000000
set_option maxHeartbeats 8000000
abbrev b18 : VCode := .seq (.region [⟨some 10, .assign (.val (.int .i64 0)), none, 0⟩] false) (.seq (.seq (.region [⟨some 11, .move (.tmp 1), none, 0⟩, ⟨some 12, .eq true (.num) (.tmp 11) (.val (.int .i64 0)), none, 1⟩, ⟨some 13, .move (.tmp 12), none, 3⟩, ⟨some 14, .move (.tmp 1), some (13, true), 7⟩, ⟨some 15, .eq true (.num) (.tmp 14) (.val (.int .i64 1)), some (13, true), 15⟩, ⟨some 16, .pick (.tmp 13) (.tmp 15) (.val (.bool false)), none, 31⟩, ⟨some 17, .move (.tmp 16), none, 63⟩, ⟨some 18, .move (.tmp 2), some (17, false), 127⟩, ⟨some 19, .eq false (.num) (.tmp 18) (.val (.int .u64 0)), some (17, false), 255⟩, ⟨some 20, .pick (.tmp 17) (.val (.bool true)) (.tmp 19), none, 511⟩, ⟨some 21, .move (.tmp 20), none, 1023⟩, ⟨some 22, .move (.tmp 2), some (21, false), 2047⟩, ⟨some 23, .bin (.gtr) (.tmp 22) (.val (.int .u64 1099511627776)), some (21, false), 4095⟩, ⟨some 24, .pick (.tmp 21) (.val (.bool true)) (.tmp 23), none, 8191⟩, ⟨some 25, .move (.tmp 24), none, 16383⟩, ⟨some 26, .move (.tmp 3), some (25, false), 32767⟩, ⟨some 27, .bin (.lss) (.tmp 26) (.val (.int .i64 0)), some (25, false), 65535⟩, ⟨some 28, .pick (.tmp 25) (.val (.bool true)) (.tmp 27), none, 131071⟩, ⟨some 29, .move (.tmp 28), none, 262143⟩, ⟨some 30, .move (.tmp 3), some (29, false), 524287⟩, ⟨some 31, .move (.tmp 0), some (29, false), 524287⟩, ⟨some 32, .call true 29 0 [(.tmp 31)], some (29, false), 1572863⟩, ⟨some 33, .bin (.geq) (.tmp 30) (.tmp 32), some (29, false), 4194303⟩, ⟨some 34, .pick (.tmp 29) (.val (.bool true)) (.tmp 33), none, 8388607⟩, ⟨some 35, .move (.tmp 34), none, 16777215⟩, ⟨some 36, .move (.tmp 4), some (35, false), 33554431⟩, ⟨some 37, .len (.slc 1) (.tmp 36), some (35, false), 67108863⟩, ⟨some 38, .bin (.gtr) (.tmp 37) (.val (.int .i64 48)), some (35, false), 134217727⟩, ⟨some 39, .pick (.tmp 35) (.val (.bool true)) (.tmp 38), none, 268435455⟩] false) (.cond (.tmp 39) (.seq (.region [⟨some 10, .assign (.val (.int .i64 81)), none, 0⟩] false) (.ret)) (.skip))) (.seq (.region [⟨some 40, .move (.tmp 0), none, 0⟩, ⟨some 41, .move (.tmp 1), none, 0⟩, ⟨some 42, .move (.tmp 0), none, 0⟩, ⟨some 43, .call true 29 0 [(.tmp 42)], none, 4⟩, ⟨some 44, .bin (.mul) (.tmp 41) (.tmp 43), none, 14⟩, ⟨some 45, .move (.tmp 3), none, 0⟩, ⟨some 46, .bin (.add) (.tmp 44) (.tmp 45), none, 62⟩, ⟨some 47, .move (.tmp 2), none, 0⟩, ⟨some 48, .move (.tmp 3), none, 0⟩, ⟨some 49, .move (.tmp 4), none, 0⟩, ⟨some 50, .call true 55 0 [(.tmp 47), (.tmp 48), (.tmp 49)], none, 908⟩, ⟨some 51, .call false 27 0 [(.tmp 40), (.tmp 46), (.tmp 50)], none, 2047⟩, ⟨some 10, .assign (.tmp 51), none, 4095⟩] false) (.ret)))
abbrev v18 : VFunc := { nparams := 5, ntmps := 52, nsites := 0, results := [.tmp 10], body := b18 }
section
variable (G : VProg)
theorem rput8 (hG : G 18 = some (.code v18)) (hR : ∀ su se pl wh off counts left, se.length < 2 ^ 40 → lim G 29 [refI su se pl wh off counts left] [] = some (.int .i64 ((se.length / 2 : Nat) : Int), []))
    (hC : ∀ r a : Nat, r ≤ 2 ^ 40 → a < 2 ^ 30 → ∀ l : List Nat, l.length ≤ 48 → lim G 55 [.int .u64 r, .int .i64 a, .isl 0 1 (byN l)] [] = some (cellV (cellM (mkN r a) l), []))
    (hP : ∀ (i : Int) (c : List Nat) (_ : c.length = 64) (es ls off left lj) (_ : ∀ c ∈ es, c.length = 64) (_ : ∀ w ∈ ls, w.2.length = 64) (_ : ls.length < 2 ^ 30) (_ : LR left),
      lim G 27 [q0, .int .i64 i, cellV c] [refP es ls off left lj] = if inR i es.length then (if spO off left then some (.int .i64 72, [refP es ls true left lj]) else some (.int .i64 0, [refP es (ls ++ [(i.toNat, c)]) false (spL off left) lj])) else some (.int .i64 71, [refP es ls off left lj]))
    (side : Int) (r : Nat) (at' : Int) (inner : List Nat) (es ls off left lj) (he : ∀ c ∈ es, c.length = 64) (hw : ∀ w ∈ ls, w.2.length = 64) (hn : es.length ≤ 4096) (hl : LR left) (hb : ls.length < 2 ^ 30) (hr : r < 2 ^ 64) :
    lim G 18 [q0, .int .i64 side, .int .u64 r, .int .i64 at', .isl 0 1 (byN inner)] [refP es ls off left lj] =
      if 0 ≤ side ∧ side < 2 ∧ 1 ≤ r ∧ r ≤ 1099511627776 ∧ 0 ≤ at' ∧ at' < (es.length / 2 : Nat) ∧ inner.length ≤ 48 then
        (if spO off left then some (.int .i64 72, [refP es ls true left lj]) else some (.int .i64 0, [refP es (ls ++ [((side.toNat * (es.length / 2) + at'.toNat), cellM (mkN r at'.toNat) inner)]) false (spL off left) lj]))
      else some (.int .i64 81, [refP es ls off left lj]) := by
  have hlen := foldl_wr_len es ls
  have g1 := hR es (ls.foldl wr es) (ls.map (·.1)) (ls.map (·.2)) off (decide (0 ≤ left)) (if 0 ≤ left then left else lj) (by omega)
  rw [hlen] at g1
  have hside : ((side == 0) = true) ∨ ((side == 0) = false ∧ (side == 1) = true) ∨ ((side == 0) = false ∧ (side == 1) = false) := by
    cases side == 0 <;> cases side == 1 <;> simp
  rcases hside with F0 | F0 | F0
  case inr.inr =>
    have k : side ≠ 0 ∧ side ≠ 1 := by simpa using F0
    rw [if_neg (by omega)]
    exact lim_fun hG (h := runV F0 trivial trivial)
  case' inl => have ks : side = 0 ∨ side = 1 := .inl (by simpa using F0)
  case' inr.inl => have ks : side = 0 ∨ side = 1 := .inr (by simpa using F0.2)
  all_goals
    cases b3 : ((r : Int) == 0)
    case true =>
      simp only [beq_iff_eq] at b3
      rw [if_neg (by omega)]
      have b3 : ((r : Int) == 0) = true := by simp only [beq_iff_eq]; omega
      exact lim_fun hG (h := runV (And.intro b3 F0) trivial trivial)
    cases b4 : decide ((1099511627776 : Int) < (r : Int))
    case true =>
      simp at b4
      rw [if_neg (by omega)]
      have b4 : decide ((1099511627776 : Int) < (r : Int)) = true := by simp; omega
      exact lim_fun hG (h := runV (And.intro b3 (And.intro b4 F0)) trivial trivial)
    cases b5 : decide (at' < 0)
    case true =>
      simp at b5
      rw [if_neg (by omega)]
      have b5 : decide (at' < 0) = true := by simp; omega
      exact lim_fun hG (h := runV (And.intro b3 (And.intro b4 (And.intro b5 F0))) trivial trivial)
    cases b6 : decide (((es.length / 2 : Nat) : Int) ≤ at')
    case true =>
      simp only [decide_eq_true_eq] at b6
      rw [if_neg (by omega)]
      have b6 : decide (((es.length / 2 : Nat) : Int) ≤ at') = true := by simp only [decide_eq_true_eq]; omega
      exact lim_fun hG (h := runV (And.intro b3 (And.intro b4 (And.intro b5 (And.intro b6 F0)))) trivial trivial)
    cases b7 : decide ((48 : Int) < (inner.length : Int))
    case true =>
      simp only [decide_eq_true_eq] at b7
      rw [if_neg (by omega)]
      have b7 : decide ((48 : Int) < (inner.length : Int)) = true := by simp only [decide_eq_true_eq]; omega
      exact lim_fun hG (h := runV (And.intro b3 (And.intro b4 (And.intro b5 (And.intro b6 (And.intro b7 F0))))) trivial trivial)
    have k3 : ¬ (r : Int) = 0 := by simpa only [beq_eq_false_iff_ne, ne_eq] using b3
    have k4 : ¬ (1099511627776 : Int) < (r : Int) := by simpa only [decide_eq_false_iff_not] using b4
    have k5 : ¬ at' < 0 := by simpa using b5
    have k6 : ¬ ((es.length / 2 : Nat) : Int) ≤ at' := by simpa only [decide_eq_false_iff_not] using b6
    have k7 : ¬ (48 : Int) < (inner.length : Int) := by simpa only [decide_eq_false_iff_not] using b7
    rw [if_pos (by omega)]
    have F := And.intro b3 (And.intro b4 (And.intro b5 (And.intro b6 (And.intro b7 F0))))
    obtain ⟨a, rfl⟩ : ∃ a : Nat, at' = a := ⟨at'.toNat, by omega⟩
    obtain ⟨sd, rfl⟩ : ∃ sd : Nat, side = sd := ⟨side.toNat, by omega⟩
    simp only [Int.toNat_natCast]
    have g2 := hC r a (by omega) (by omega) inner (by omega)
    obtain ⟨i, hi⟩ : ∃ i, i = sd * (es.length / 2) := ⟨_, rfl⟩
    have hi2 : i + a < es.length := by
      have : sd = 0 ∨ sd = 1 := by omega
      rcases this with rfl | rfl <;> omega
    have m1 : IntKind.i64.wrap ((sd : Int) * ((es.length / 2 : Nat) : Int)) = (i : Int) := by
      have : (sd : Int) * ((es.length / 2 : Nat) : Int) = (i : Int) := by rw [hi, Int.natCast_mul]
      rw [this]; exact wrapi64 _ (by omega) (by omega)
    have m2 : IntKind.i64.wrap ((i : Int) + (a : Int)) = ((i + a : Nat) : Int) := wrapi64 ((i + a : Nat) : Int) (by omega) (by omega)
    rw [← hi]
    have hin : inR ((i + a : Nat) : Int) es.length = true := by simp only [inR, Bool.and_eq_true, decide_eq_true_eq]; omega
    have hc : (cellM (mkN r a) inner).length = 64 := by simp [cellM, le8, pad48_len (show inner.length ≤ 48 by omega)]
    have g3 := hP ((i + a : Nat) : Int) (cellM (mkN r a) inner) hc es ls off left lj he hw hb hl
    rw [hin] at g3
    simp only [if_true, Int.toNat_natCast] at g3
    obtain ⟨x, ls', off', left', hx⟩ : ∃ x ls' off' left', (if spO off left then some (V.int .i64 72, [refP es ls true left lj]) else some (.int .i64 0, [refP es (ls ++ [((i + a), cellM (mkN r a) inner)]) false (spL off left) lj])) = some (.int .i64 x, [refP es ls' off' left' lj]) := by
      cases spO off left
      · exact ⟨_, _, _, _, rfl⟩
      · exact ⟨_, _, _, _, rfl⟩
    rw [hx] at g3 ⊢
    obtain ⟨c, hcd⟩ : ∃ c, c = cellM (mkN r a) inner := ⟨_, rfl⟩
    rw [← hcd] at g2 g3 hc
    exact lim_fun hG (h := runV (And.intro m1 (And.intro m2 (And.intro F (cf hc)))) (apart_by c) trivial)
end
end P1
end Go.Vq

namespace Go.Vq
namespace P1
open Go
set_option maxRecDepth 1000000
set_option maxHeartbeats 8000000
abbrev b31 : VCode := .seq (.region [⟨some 4, .assign (.val (.int .u64 0)), none, 0⟩, ⟨some 5, .assign (.val (.nilS 1)), none, 1⟩] false) (.seq (.region [⟨some 11, .buildSlice 1 [] [], none, 0⟩, ⟨some 6, .assign (.tmp 11), none, 1⟩] false) (.seq (.seq (.region [⟨some 12, .move (.tmp 1), none, 0⟩, ⟨some 13, .eq true (.num) (.tmp 12) (.val (.int .i64 0)), none, 1⟩, ⟨some 14, .move (.tmp 13), none, 3⟩, ⟨some 15, .move (.tmp 1), some (14, true), 7⟩, ⟨some 16, .eq true (.num) (.tmp 15) (.val (.int .i64 1)), some (14, true), 15⟩, ⟨some 17, .pick (.tmp 14) (.tmp 16) (.val (.bool false)), none, 31⟩, ⟨some 18, .move (.tmp 17), none, 63⟩, ⟨some 19, .move (.tmp 0), some (18, false), 127⟩, ⟨some 20, .call true 29 0 [(.tmp 19)], some (18, false), 255⟩, ⟨some 21, .eq false (.num) (.tmp 20) (.val (.int .i64 0)), some (18, false), 511⟩, ⟨some 22, .pick (.tmp 18) (.val (.bool true)) (.tmp 21), none, 1023⟩] false) (.cond (.tmp 22) (.seq (.region [⟨some 23, .move (.tmp 6), none, 0⟩, ⟨some 4, .assign (.val (.int .u64 0)), none, 0⟩, ⟨some 5, .assign (.tmp 23), none, 3⟩] false) (.ret)) (.skip))) (.seq (.region [⟨some 24, .move (.tmp 0), none, 0⟩, ⟨some 25, .nilCheck (.tmp 24), none, 1⟩, ⟨some 26, .fieldAddr 1 (.tmp 25), none, 3⟩, ⟨some 27, .load false 1 (.tmp 26), none, 7⟩, ⟨some 28, .move (.tmp 1), none, 0⟩, ⟨some 29, .move (.tmp 0), none, 0⟩, ⟨some 30, .call true 29 0 [(.tmp 29)], none, 32⟩, ⟨some 31, .bin (.mul) (.tmp 28) (.tmp 30), none, 112⟩, ⟨some 32, .indexAddr none 64 (.tmp 27) (.tmp 31), none, 255⟩, ⟨some 33, .load true 64 (.tmp 32), none, 511⟩, ⟨some 7, .alloc 0 (Z8 64), none, 0⟩, ⟨none, .store 64 (.tmp 7) (.tmp 33), none, 2047⟩] true) (.seq (.region [⟨some 34, .load true 64 (.tmp 7), none, 0⟩, ⟨some 35, .call true 60 1 [(.tmp 34)], none, 1⟩, ⟨some 36, .bin (.quo) (.tmp 35) (.val (.int .u64 65536)), none, 3⟩, ⟨some 8, .assign (.tmp 36), none, 7⟩] false) (.seq (.seq (.region [⟨some 37, .move (.tmp 8), none, 0⟩, ⟨some 38, .bin (.lss) (.tmp 37) (.val (.int .u64 1)), none, 1⟩, ⟨some 39, .move (.tmp 38), none, 3⟩, ⟨some 40, .move (.tmp 8), some (39, false), 7⟩, ⟨some 41, .bin (.gtr) (.tmp 40) (.val (.int .u64 1099511627776)), some (39, false), 15⟩, ⟨some 42, .pick (.tmp 39) (.val (.bool true)) (.tmp 41), none, 31⟩] false) (.cond (.tmp 42) (.seq (.region [⟨some 43, .move (.tmp 6), none, 0⟩, ⟨some 4, .assign (.val (.int .u64 0)), none, 0⟩, ⟨some 5, .assign (.tmp 43), none, 3⟩] false) (.ret)) (.skip))) (.seq (.seq (.region [⟨some 9, .assign (.val (.int .i64 0)), none, 0⟩] false) (.block 0 (some [6, 8]) (.loop (some [0, 1, 6, 8, 9]) (.seq (.seq (.region [⟨some 44, .move (.tmp 9), none, 0⟩, ⟨some 45, .move (.tmp 0), none, 0⟩, ⟨some 46, .call true 29 1 [(.tmp 45)], none, 2⟩, ⟨some 47, .bin (.lss) (.tmp 44) (.tmp 46), none, 7⟩] false) (.cond (.tmp 47) (.skip) (.exit 0))) (.seq (.block 1 none (.seq (.region [⟨some 50, .move (.tmp 0), none, 0⟩, ⟨some 51, .nilCheck (.tmp 50), none, 1⟩, ⟨some 52, .fieldAddr 1 (.tmp 51), none, 3⟩, ⟨some 53, .load false 1 (.tmp 52), none, 7⟩, ⟨some 54, .move (.tmp 1), none, 0⟩, ⟨some 55, .move (.tmp 0), none, 0⟩, ⟨some 56, .call true 29 1 [(.tmp 55)], none, 32⟩, ⟨some 57, .bin (.mul) (.tmp 54) (.tmp 56), none, 112⟩, ⟨some 58, .move (.tmp 9), none, 0⟩, ⟨some 59, .bin (.add) (.tmp 57) (.tmp 58), none, 496⟩, ⟨some 60, .indexAddr none 64 (.tmp 53) (.tmp 59), none, 1023⟩, ⟨some 61, .load true 64 (.tmp 60), none, 2047⟩, ⟨some 10, .alloc 1 (Z8 64), none, 0⟩, ⟨none, .store 64 (.tmp 10) (.tmp 61), none, 8191⟩] true) (.seq (.seq (.region [⟨some 62, .load true 64 (.tmp 10), none, 0⟩, ⟨some 63, .call true 60 2 [(.tmp 62)], none, 1⟩, ⟨some 64, .move (.tmp 8), none, 0⟩, ⟨some 65, .move (.tmp 9), none, 0⟩, ⟨some 66, .call true 55 2 [(.tmp 64), (.tmp 65), (.val (.nilS 1))], none, 15⟩, ⟨some 67, .call true 60 2 [(.tmp 66)], none, 31⟩, ⟨some 68, .eq true (.num) (.tmp 63) (.tmp 67), none, 63⟩] false) (.cond (.tmp 68) (.exit 0) (.skip))) (.region [⟨some 69, .move (.tmp 6), none, 0⟩, ⟨some 70, .slice (.arr 64) (.tmp 10) (some (.val (.int .i64 8))) (some (.val (.int .i64 56))) none, none, 0⟩, ⟨some 71, .conv (.text) (.tmp 70), none, 2⟩, ⟨some 72, .buildSlice 1 [(.str [])] [(0, (.tmp 71))], none, 6⟩, ⟨some 73, .append 1 16 (.tmp 69) (.tmp 72), none, 15⟩, ⟨some 6, .assign (.tmp 73), none, 31⟩] false)))) (.region [⟨some 48, .move (.tmp 9), none, 0⟩, ⟨some 49, .bin (.add) (.tmp 48) (.val (.int .i64 1)), none, 1⟩, ⟨some 9, .assign (.tmp 49), none, 3⟩] false)))))) (.seq (.seq (.region [⟨some 74, .move (.tmp 6), none, 0⟩, ⟨some 75, .len (.slc 1) (.tmp 74), none, 1⟩, ⟨some 76, .eq false (.num) (.tmp 75) (.val (.int .i64 0)), none, 3⟩] false) (.cond (.tmp 76) (.seq (.region [⟨some 77, .move (.tmp 6), none, 0⟩, ⟨some 4, .assign (.val (.int .u64 0)), none, 0⟩, ⟨some 5, .assign (.tmp 77), none, 3⟩] false) (.ret)) (.skip))) (.seq (.region [⟨some 78, .move (.tmp 8), none, 0⟩, ⟨some 79, .move (.tmp 6), none, 0⟩, ⟨some 4, .assign (.tmp 78), none, 1⟩, ⟨some 5, .assign (.tmp 79), none, 7⟩] false) (.ret)))))))))
abbrev v31 : VFunc := { nparams := 2, ntmps := 80, nsites := 2, results := [.tmp 4, .tmp 5], body := b31 }
abbrev sB (b : List Nat) : V := .str (strN b)
abbrev rreadV (x : Nat × List (List Nat)) : V := .tup [.int .u64 (x.1 : Int), .xsl 0 1 (x.2.map sB)]
def SRr (sd r : Nat) (es se : List (List Nat)) (pl : List Nat) (wh : List (List Nat)) (off counts : Bool) (left : Int) (a : Nat × List (List Nat)) : St :=
  ⟨(q0 :: .int .i64 sd :: .gone 0 :: .gone 0 :: .gone 0 :: .gone 0 :: .xsl 0 1 (a.2.map sB) :: .gone 0 :: .int .u64 r :: .int .i64 a.1 :: .gone 0 :: .gone 0 :: .gone 0 :: .gone 0 :: .gone 0 :: .gone 0 :: .gone 0 :: .gone 0 :: .gone 0 :: .gone 0 :: .gone 0 :: .gone 0 :: .gone 0 :: .gone 0 :: .gone 0 :: .gone 0 :: .gone 0 :: .gone 0 :: .gone 0 :: .gone 0 :: .gone 0 :: .gone 0 :: .gone 0 :: .gone 0 :: .gone 0 :: .gone 0 :: .gone 0 :: .gone 0 :: .gone 0 :: .gone 0 :: .gone 0 :: .gone 0 :: .gone 0 :: .gone 0 :: .gone 0 :: .gone 0 :: .gone 0 :: .gone 0 :: .gone 0 :: .gone 0 :: .gone 0 :: .gone 0 :: .gone 0 :: .gone 0 :: .gone 0 :: .gone 0 :: .gone 0 :: .gone 0 :: .gone 0 :: .gone 0 :: .gone 0 :: .gone 0 :: .gone 0 :: .gone 0 :: .gone 0 :: .gone 0 :: .gone 0 :: .gone 0 :: .gone 0 :: .gone 0 :: .gone 0 :: .gone 0 :: .gone 0 :: .gone 0 :: .gone 0 :: .gone 0 :: .gone 0 :: .gone 0 :: .gone 0 :: .gone 0 :: []), [some (refO es se pl wh off counts left), none, none]⟩
section
variable (G : VProg)
theorem rread (hG : G 31 = some (.code v31)) (hR : ∀ su se pl wh off counts left, se.length < 2 ^ 40 → lim G 29 [refI su se pl wh off counts left] [] = some (.int .i64 ((se.length / 2 : Nat) : Int), []))
    (hK : ∀ c : List Nat, C64 c → lim G 60 [cellV c] [] = some (.int .u64 (markN c : Nat), []))
    (hC : ∀ r a : Nat, r ≤ 2 ^ 40 → a < 2 ^ 30 → ∀ l : List Nat, l.length ≤ 48 → lim G 55 [.int .u64 r, .int .i64 a, .isl 0 1 (byN l)] [] = some (cellV (cellM (mkN r a) l), []))
    (side : Int) (es ls off left lj) (h : PW es ls) :
    lim G 31 [q0, .int .i64 side] [refP es ls off left lj] = some (rreadV (readN es ls side), [refP es ls off left lj]) := by
  have hn := h.n
  have hlen := foldl_wr_len es ls
  have g1 := hR es (ls.foldl wr es) (ls.map (·.1)) (ls.map (·.2)) off (decide (0 ≤ left)) (if 0 ≤ left then left else lj) (by omega)
  rw [hlen] at g1
  have hside : ((side == 0) = true) ∨ ((side == 0) = false ∧ (side == 1) = true) ∨ ((side == 0) = false ∧ (side == 1) = false) := by
    cases side == 0 <;> cases side == 1 <;> simp
  rcases hside with F0 | F0 | F0
  case inr.inr =>
    have k : side ≠ 0 ∧ side ≠ 1 := by simpa using F0
    unfold readN
    rw [if_pos (by omega)]
    exact lim_fun hG (h := runV F0 trivial trivial)
  case' inl => have ks : side = 0 ∨ side = 1 := .inl (by simpa using F0)
  case' inr.inl => have ks : side = 0 ∨ side = 1 := .inr (by simpa using F0.2)
  all_goals
    cases b3 : (((es.length / 2 : Nat) : Int) == 0)
    case true =>
      simp only [beq_iff_eq] at b3
      unfold readN
      rw [if_pos (by omega)]
      have b3 : (((es.length / 2 : Nat) : Int) == 0) = true := by simp only [beq_iff_eq]; omega
      exact lim_fun hG (h := runV (And.intro b3 F0) trivial trivial)
    have k3 : ¬ ((es.length / 2 : Nat) : Int) = 0 := by simpa only [beq_eq_false_iff_ne, ne_eq] using b3
    unfold readN
    rw [if_neg (by omega)]
    obtain ⟨sd, rfl⟩ : ∃ sd : Nat, side = sd := ⟨side.toNat, by omega⟩
    simp only [Int.toNat_natCast]
    obtain ⟨i, hi⟩ : ∃ i, i = sd * (es.length / 2) := ⟨_, rfl⟩
    have hi2 : i + es.length / 2 ≤ es.length := by
      have : sd = 0 ∨ sd = 1 := by omega
      rcases this with rfl | rfl <;> omega
    have m1 : IntKind.i64.wrap ((sd : Int) * ((es.length / 2 : Nat) : Int)) = (i : Int) := by
      have : (sd : Int) * ((es.length / 2 : Nat) : Int) = (i : Int) := by rw [hi, Int.natCast_mul]
      rw [this]; exact wrapi64 _ (by omega) (by omega)
    rw [← hi]
    obtain ⟨hsi, hsg⟩ := seen_at (es := es) (ls := ls) (fun w hw => (h.w w hw).1) i (by omega)
    have hC0 := getC_C h (i : Int)
    have g3 := hK _ hC0
    have hl := hC0.1
    obtain ⟨c, hcd⟩ : ∃ c, c = getC es ls (i : Int) := ⟨_, rfl⟩
    rw [← hcd] at g3 hl hsg ⊢
    obtain ⟨f, hf⟩ : ∃ f, f = markN c := ⟨_, rfl⟩
    rw [← hf] at g3 ⊢
    have hseen := seen_at (es := es) (ls := ls) (fun w hw => (h.w w hw).1)
    have hg : ((ls.foldl wr es).map cellV)[i]? = some (cellV c) := by rw [← hsg]; simp [hsi]
    obtain ⟨u1, hu1⟩ : ∃ u, (if 0 ≤ left then left else lj) = u := ⟨_, rfl⟩
    obtain ⟨u3, hu3⟩ : ∃ u, decide (0 ≤ left) = u := ⟨_, rfl⟩
    simp only [refP] at g1 ⊢
    rw [hu1, hu3] at g1 ⊢
    obtain ⟨se, hse⟩ : ∃ se, se = ls.foldl wr es := ⟨_, rfl⟩
    simp only [← hse] at hseen
    rw [← hse] at g1 hg hlen ⊢
    have hil : (i : Int) < (es.length : Int) := by omega
    have hm := markN_lt hC0
    rw [← hcd, ← hf] at hm
    obtain ⟨r, hr⟩ : ∃ r, r = f / 65536 := ⟨_, rfl⟩
    have s1 : IntKind.u64.wrap ((f : Int).tdiv 65536) = (r : Int) := by
      rw [Int.tdiv_eq_ediv_of_nonneg (by omega), hr]; exact wrap64 (f / 65536) (by omega)
    rw [← hr]
    have F := And.intro b3 (And.intro m1 (And.intro hg (And.intro hlen (And.intro hil (And.intro F0 (And.intro s1 (cf hl)))))))
    obtain ⟨pl, hpl⟩ : ∃ pl, pl = ls.map (·.1) := ⟨_, rfl⟩
    obtain ⟨wh, hwh⟩ : ∃ wh, wh = ls.map (·.2) := ⟨_, rfl⟩
    rw [← hpl, ← hwh] at g1 ⊢
    cases b4 : decide ((r : Int) < 1)
    case true =>
      simp only [decide_eq_true_eq] at b4
      rw [if_pos (by omega)]
      have b4 : decide ((r : Int) < 1) = true := by simp only [decide_eq_true_eq]; omega
      exact lim_fun hG (h := runV (And.intro b4 F) trivial trivial)
    cases b5 : decide ((1099511627776 : Int) < (r : Int))
    case true =>
      simp only [decide_eq_true_eq] at b5
      rw [if_pos (by omega)]
      have b5 : decide ((1099511627776 : Int) < (r : Int)) = true := by simp only [decide_eq_true_eq]; omega
      exact lim_fun hG (h := runV (And.intro b4 (And.intro b5 F)) trivial trivial)
    have k4 : ¬ (r : Int) < 1 := by simpa only [decide_eq_false_iff_not] using b4
    have k5 : ¬ (1099511627776 : Int) < (r : Int) := by simpa only [decide_eq_false_iff_not] using b5
    have hspec : (if r < 1 ∨ 1099511627776 < r ∨ f ≠ mkN r 0 then ((0 : Nat), ([] : List (List Nat))) else (r, rdN es ls i r 0 (es.length / 2))) = (if (rdN es ls i r 0 (es.length / 2)) = [] then 0 else r, rdN es ls i r 0 (es.length / 2)) := by
      obtain ⟨k, hk⟩ : ∃ k, es.length / 2 = k + 1 := ⟨es.length / 2 - 1, by omega⟩
      have hr0 : rdN es ls i r 0 (es.length / 2) = if f = mkN r 0 then mid c :: rdN es ls i r 1 k else [] := by
        rw [hk]; simp only [rdN, Nat.add_zero, ← hcd, ← hf]
      rw [hr0]
      by_cases e : f = mkN r 0
      · rw [if_neg (by rintro (h | h | h); omega; omega; exact h e), if_pos e, if_neg (by simp)]
      · rw [if_pos (.inr (.inr e)), if_neg e, if_pos rfl]
    rw [hspec]
    clear hspec
    refine lim_fun hG (h := runV (And.intro b4 (And.intro b5 F)) trivial ?_)
    refine WL_loop (SRr sd r es se pl wh off u3 u1) (fun a => a.1 ≤ es.length / 2 ∧ a.2.length = a.1 ∧ a.2 ++ rdN es ls i r a.1 (es.length / 2 - a.1) = rdN es ls i r 0 (es.length / 2)) (fun a => es.length / 2 - a.1) ?_ (0, []) _ ⟨Nat.zero_le _, rfl, by rw [Nat.sub_zero, List.nil_append]⟩ (by kernel_rfl)
    clear F g3 hg s1 hl
    rintro ⟨a, out⟩ ⟨ha, ho, hrd⟩
    simp only at ha ho hrd
    by_cases hlt0 : a < es.length / 2
    · have hlt : decide ((a : Int) < ((es.length / 2 : Nat) : Int)) = true := by simp only [decide_eq_true_eq]; omega
      have i1 := inc64 a (by omega)
      have m2 : IntKind.i64.wrap ((i : Int) + (a : Int)) = ((i + a : Nat) : Int) := wrapi64 ((i + a : Nat) : Int) (by omega) (by omega)
      have hia : ((i + a : Nat) : Int) < (es.length : Int) := by omega
      obtain ⟨hsj, hsh⟩ := hseen (i + a) (by omega)
      have hCa := getC_C h ((i + a : Nat) : Int)
      have q3 := hK _ hCa
      have hla := hCa.1
      have q4 : lim G 55 [.int .u64 r, .int .i64 a, .isl 0 1 []] [] = some (cellV (cellM (mkN r a) []), []) := hC r a (by omega) (by omega) [] (by simp)
      have hCm : C64 (cellM (mkN r a) []) := cellM_C (by simp) (by simp)
      have q5 := hK _ hCm
      rw [cellM_mark _ _ (by simp) (by unfold mkN; omega)] at q5
      have hlm := hCm.1
      have hrd2 : rdN es ls i r a (es.length / 2 - a) = if markN (getC es ls ((i + a : Nat) : Int)) = mkN r a then mid (getC es ls ((i + a : Nat) : Int)) :: rdN es ls i r (a + 1) (es.length / 2 - (a + 1)) else [] := by
        rw [show es.length / 2 - a = (es.length / 2 - (a + 1)) + 1 by omega]; rfl
      rw [hrd2] at hrd
      clear hrd2
      obtain ⟨ca, hca⟩ : ∃ ca, ca = getC es ls ((i + a : Nat) : Int) := ⟨_, rfl⟩
      rw [← hca] at q3 hla hrd hsh
      have hg : (se.map cellV)[i + a]? = some (cellV ca) := by rw [← hsh]; simp [hsj]
      obtain ⟨u, hu⟩ : ∃ u, u = markN ca := ⟨_, rfl⟩
      obtain ⟨w, hw⟩ : ∃ w, w = mkN r a := ⟨_, rfl⟩
      rw [← hu] at q3 hrd
      rw [← hw] at q4 q5 hrd hlm
      obtain ⟨cm, hcm⟩ : ∃ cm, cm = cellM w [] := ⟨_, rfl⟩
      rw [← hcm] at q4 q5 hlm
      have dm : List.take 48 (List.drop 8 (byN ca)) = byN (mid ca) := by rw [byN_sub']; rfl
      obtain ⟨mc, hmc⟩ : ∃ mc, mc = mid ca := ⟨_, rfl⟩
      rw [← hmc] at dm hrd
      have ht : textV (byN mc) = some (strN mc) := textV_by _
      have F2 := And.intro hlt (And.intro i1 (And.intro m1 (And.intro m2 (And.intro hia (And.intro hg (And.intro hlen (And.intro dm (And.intro ht (cf hla)))))))))
      cases b7 : ((u : Int) == (w : Int))
      · rw [if_neg (by intro e; rw [e] at b7; simp at b7), List.append_nil] at hrd
        rw [← hrd]
        unfold SRr
        refine runV (And.intro b7 F2) (apart_by cm) ?_
        refine Qr_x ?_
        refine Qb_x (σ1 := ⟨(.gone 0 :: .gone 0 :: .gone 0 :: .gone 0 :: .gone 0 :: .gone 0 :: .xsl 0 1 (out.map sB) :: .gone 0 :: .int .u64 r :: .gone 0 :: .gone 0 :: .gone 0 :: .gone 0 :: .gone 0 :: .gone 0 :: .gone 0 :: .gone 0 :: .gone 0 :: .gone 0 :: .gone 0 :: .gone 0 :: .gone 0 :: .gone 0 :: .gone 0 :: .gone 0 :: .gone 0 :: .gone 0 :: .gone 0 :: .gone 0 :: .gone 0 :: .gone 0 :: .gone 0 :: .gone 0 :: .gone 0 :: .gone 0 :: .gone 0 :: .gone 0 :: .gone 0 :: .gone 0 :: .gone 0 :: .gone 0 :: .gone 0 :: .gone 0 :: .gone 0 :: .gone 0 :: .gone 0 :: .gone 0 :: .gone 0 :: .gone 0 :: .gone 0 :: .gone 0 :: .gone 0 :: .gone 0 :: .gone 0 :: .gone 0 :: .gone 0 :: .gone 0 :: .gone 0 :: .gone 0 :: .gone 0 :: .gone 0 :: .gone 0 :: .gone 0 :: .gone 0 :: .gone 0 :: .gone 0 :: .gone 0 :: .gone 0 :: .gone 0 :: .gone 0 :: .gone 0 :: .gone 0 :: .gone 0 :: .gone 0 :: .gone 0 :: .gone 0 :: .gone 0 :: .gone 0 :: .gone 0 :: .gone 0 :: []), [some (refO es se pl wh off u3 u1), none, none]⟩) (by kernel_rfl) ?_
        by_cases ho0 : out = []
        · subst ho0
          rw [if_pos rfl]
          exact runV trivial trivial trivial
        · rw [if_neg ho0]
          have z : ((out.length : Int) == 0) = false := by
            simp only [beq_eq_false_iff_ne, ne_eq]
            have := List.length_pos_iff.2 ho0
            omega
          refine runV z trivial ?_
          exact Qe_r (fin_own3 rfl rfl rfl rfl rfl (by simp) rfl)
      · rw [if_pos (by simp only [beq_iff_eq] at b7; omega)] at hrd
        have em : out.map sB ++ [.str (strN mc)] = (out ++ [mc]).map sB := by simp
        unfold SRr
        refine runV (And.intro b7 (And.intro em F2)) (apart_by cm) ?_
        exact Qr_n (a + 1, out ++ [mc]) (by kernel_rfl) ⟨⟨by simp only; omega, by simp [ho], by simp only; rw [List.append_assoc]; exact hrd⟩, by simp only; omega⟩
    · obtain rfl : a = es.length / 2 := by omega
      have hlt : decide ((((es.length / 2 : Nat) : Nat) : Int) < ((es.length / 2 : Nat) : Int)) = false := by simp only [decide_eq_false_iff_not]; omega
      rw [Nat.sub_self] at hrd
      have hrd2 : out = rdN es ls i r 0 (es.length / 2) := by rw [← hrd]; simp [rdN]
      rw [← hrd2]
      unfold SRr
      refine runV hlt trivial ?_
      refine Qr_x ?_
      refine Qb_x (σ1 := ⟨(.gone 0 :: .gone 0 :: .gone 0 :: .gone 0 :: .gone 0 :: .gone 0 :: .xsl 0 1 (out.map sB) :: .gone 0 :: .int .u64 r :: .gone 0 :: .gone 0 :: .gone 0 :: .gone 0 :: .gone 0 :: .gone 0 :: .gone 0 :: .gone 0 :: .gone 0 :: .gone 0 :: .gone 0 :: .gone 0 :: .gone 0 :: .gone 0 :: .gone 0 :: .gone 0 :: .gone 0 :: .gone 0 :: .gone 0 :: .gone 0 :: .gone 0 :: .gone 0 :: .gone 0 :: .gone 0 :: .gone 0 :: .gone 0 :: .gone 0 :: .gone 0 :: .gone 0 :: .gone 0 :: .gone 0 :: .gone 0 :: .gone 0 :: .gone 0 :: .gone 0 :: .gone 0 :: .gone 0 :: .gone 0 :: .gone 0 :: .gone 0 :: .gone 0 :: .gone 0 :: .gone 0 :: .gone 0 :: .gone 0 :: .gone 0 :: .gone 0 :: .gone 0 :: .gone 0 :: .gone 0 :: .gone 0 :: .gone 0 :: .gone 0 :: .gone 0 :: .gone 0 :: .gone 0 :: .gone 0 :: .gone 0 :: .gone 0 :: .gone 0 :: .gone 0 :: .gone 0 :: .gone 0 :: .gone 0 :: .gone 0 :: .gone 0 :: .gone 0 :: .gone 0 :: .gone 0 :: .gone 0 :: .gone 0 :: []), [some (refO es se pl wh off u3 u1), none, none]⟩) (by kernel_rfl) ?_
      by_cases ho0 : out = []
      · subst ho0
        rw [if_pos rfl]
        exact runV trivial trivial trivial
      · rw [if_neg ho0]
        have z : ((out.length : Int) == 0) = false := by
          simp only [beq_eq_false_iff_ne, ne_eq]
          have := List.length_pos_iff.2 ho0
          omega
        refine runV z trivial ?_
        exact Qe_r (fin_own3 rfl rfl rfl rfl rfl (by simp) rfl)
end
end P1
end Go.Vq

namespace Go.Vq
namespace P1
open Go
set_option maxRecDepth 1000000
set_option maxHeartbeats 8000000
abbrev b32 : VCode := .seq (.region [⟨some 4, .assign (.val (.bool false)), none, 0⟩] false) (.seq (.seq (.region [⟨some 6, .move (.tmp 0), none, 0⟩, ⟨some 7, .len (.slc 1) (.tmp 6), none, 1⟩, ⟨some 8, .move (.tmp 1), none, 0⟩, ⟨some 9, .len (.slc 1) (.tmp 8), none, 4⟩, ⟨some 10, .eq true (.num) (.tmp 7) (.tmp 9), none, 15⟩] false) (.cond (.tmp 10) (.seq (.region [⟨some 4, .assign (.val (.bool false)), none, 0⟩] false) (.ret)) (.skip))) (.seq (.seq (.region [⟨some 11, .move (.tmp 0), none, 0⟩, ⟨some 12, .len (.slc 1) (.tmp 11), none, 1⟩, ⟨some 13, .move (.val (.int .i64 0)), none, 0⟩] false) (.block 0 (some []) (.loop (some [0, 1, 12, 13]) (.seq (.region [⟨some 14, .bin (.lss) (.tmp 13) (.tmp 12), none, 0⟩] false) (.seq (.cond (.tmp 14) (.skip) (.exit 0)) (.seq (.block 1 none (.seq (.region [⟨some 15, .move (.tmp 13), none, 0⟩, ⟨some 5, .assign (.tmp 15), none, 1⟩] false) (.seq (.region [⟨some 16, .move (.tmp 0), none, 0⟩, ⟨some 17, .move (.tmp 5), none, 0⟩, ⟨some 18, .indexAddr none 1 (.tmp 16) (.tmp 17), none, 3⟩, ⟨some 19, .load false 1 (.tmp 18), none, 7⟩, ⟨some 20, .conv (.text) (.tmp 19), none, 15⟩, ⟨some 21, .move (.tmp 1), none, 0⟩, ⟨some 22, .move (.tmp 5), none, 0⟩, ⟨some 23, .indexAddr none 1 (.tmp 21) (.tmp 22), none, 96⟩, ⟨some 24, .load false 1 (.tmp 23), none, 224⟩, ⟨some 25, .eq true (.num) (.tmp 20) (.tmp 24), none, 511⟩] true) (.cond (.tmp 25) (.seq (.region [⟨some 4, .assign (.val (.bool false)), none, 0⟩] false) (.ret)) (.skip))))) (.region [⟨some 26, .bin (.add) (.tmp 13) (.val (.int .i64 1)), none, 0⟩, ⟨some 13, .move (.tmp 26), none, 1⟩] false))))))) (.seq (.region [⟨some 4, .assign (.val (.bool true)), none, 0⟩] false) (.ret))))
abbrev v32 : VFunc := { nparams := 2, ntmps := 27, nsites := 0, results := [.tmp 4], body := b32 }
section
variable (G : VProg)
theorem lsame (hG : G 32 = some (.code v32)) (l : List (List Nat)) (hl : l.length < 2 ^ 40) : lim G 32 [.isl 0 1 (l.map iB), .isl 0 1 (l.map sB)] [] = some (.bool true, []) := by
  refine lim_fun hG (h := runV trivial trivial ?_)
  refine WL_loop (fun i : Nat => ⟨(.isl 0 1 (l.map iB) :: .isl 0 1 (l.map sB) :: .gone 0 :: .gone 0 :: .gone 0 :: .gone 0 :: .gone 0 :: .gone 0 :: .gone 0 :: .gone 0 :: .gone 0 :: .gone 0 :: .int .i64 l.length :: .int .i64 i :: .gone 0 :: .gone 0 :: .gone 0 :: .gone 0 :: .gone 0 :: .gone 0 :: .gone 0 :: .gone 0 :: .gone 0 :: .gone 0 :: .gone 0 :: .gone 0 :: .gone 0 :: []), []⟩) (fun i => i ≤ l.length) (fun i => l.length - i) ?_ 0 _ (Nat.zero_le _) (by kernel_rfl)
  intro i hi
  by_cases h : i < l.length
  · have hlt : decide ((i : Int) < (l.length : Int)) = true := by simp; omega
    have i1 := inc64 i (by omega)
    have hil : (i : Int) < (l.length : Int) := by omega
    obtain ⟨b, hb⟩ : ∃ b, b = l[i] := ⟨_, rfl⟩
    have hg1 : (l.map iB)[i]? = some (iB b) := by rw [hb]; simp [h]
    have hg2 : (l.map sB)[i]? = some (sB b) := by rw [hb]; simp [h]
    have ht : textV (byN b) = some (strN b) := textV_by _
    refine runV (And.intro hlt (And.intro i1 (And.intro hil (And.intro hg1 (And.intro hg2 ht))))) trivial ?_
    exact Qr_n (i + 1) (by kernel_rfl) ⟨by omega, by omega⟩
  · obtain rfl : i = l.length := by omega
    have hlt : decide ((l.length : Int) < (l.length : Int)) = false := by simp
    refine runV hlt trivial ?_
    refine Qr_x ?_
    refine Qb_x (σ1 := ⟨(.gone 0 :: .gone 0 :: .gone 0 :: .gone 0 :: .gone 0 :: .gone 0 :: .gone 0 :: .gone 0 :: .gone 0 :: .gone 0 :: .gone 0 :: .gone 0 :: .gone 0 :: .gone 0 :: .gone 0 :: .gone 0 :: .gone 0 :: .gone 0 :: .gone 0 :: .gone 0 :: .gone 0 :: .gone 0 :: .gone 0 :: .gone 0 :: .gone 0 :: .gone 0 :: .gone 0 :: []), []⟩) (by kernel_rfl) ?_
    exact runV trivial trivial trivial
end
end P1
end Go.Vq

namespace Go.Vq
namespace P1
open Go
set_option maxRecDepth 1000000
set_option maxHeartbeats 8000000
abbrev b26 : VCode := .seq (.region [⟨some 2, .alloc 0 (Z8 64), none, 0⟩] false) (.seq (.region [⟨some 5, .build (Z8 64) [], none, 0⟩, ⟨some 3, .alloc 1 (Z8 64), none, 0⟩, ⟨none, .store 64 (.tmp 3) (.tmp 5), none, 3⟩] false) (.seq (.seq (.region [⟨some 6, .move (.val (.int .i64 0)), none, 0⟩] false) (.block 0 (some [2, 3]) (.loop (some [0, 2, 3, 6]) (.seq (.region [⟨some 7, .bin (.lss) (.tmp 6) (.val (.int .i64 64)), none, 0⟩] false) (.seq (.cond (.tmp 7) (.skip) (.exit 0)) (.seq (.block 1 none (.seq (.region [⟨some 8, .move (.tmp 6), none, 0⟩, ⟨some 4, .assign (.tmp 8), none, 1⟩] false) (.seq (.region [⟨some 9, .move (.tmp 0), none, 0⟩, ⟨some 10, .len (.slc 1) (.tmp 9), none, 1⟩, ⟨some 11, .bin (.gtr) (.tmp 10) (.val (.int .i64 0)), none, 3⟩] false) (.cond (.tmp 11) (.region [⟨some 12, .move (.tmp 4), none, 0⟩, ⟨some 13, .move (.tmp 0), none, 0⟩, ⟨some 14, .move (.tmp 4), none, 0⟩, ⟨some 15, .move (.tmp 0), none, 0⟩, ⟨some 16, .len (.slc 1) (.tmp 15), none, 8⟩, ⟨some 17, .bin (.rem) (.tmp 14) (.tmp 16), none, 28⟩, ⟨some 18, .indexAddr none 1 (.tmp 13) (.tmp 17), none, 62⟩, ⟨some 19, .load false 1 (.tmp 18), none, 126⟩, ⟨some 20, .indexAddr (some 64) 1 (.tmp 3) (.tmp 12), none, 255⟩, ⟨none, .store 1 (.tmp 20) (.tmp 19), none, 511⟩] false) (.skip))))) (.region [⟨some 21, .bin (.add) (.tmp 6) (.val (.int .i64 1)), none, 0⟩, ⟨some 6, .move (.tmp 21), none, 1⟩] false))))))) (.seq (.region [⟨some 22, .load true 64 (.tmp 3), none, 0⟩, ⟨none, .store 64 (.tmp 2) (.tmp 22), none, 1⟩] false) (.ret))))
abbrev v26 : VFunc := { nparams := 1, ntmps := 23, nsites := 2, results := [.cell 2 true 64], body := b26 }
def rawF (b : List Nat) (i : Nat) : Nat := b.getD (i % b.length) 0
def rN (b : List Nat) (i : Nat) : List Nat := (List.range i).map (rawF b) ++ List.replicate (64 - i) 0
/-- A cell of any bytes, over and over. -/
def rawN (b : List Nat) : List Nat := rN b 64
theorem rN_len (b : List Nat) (i : Nat) (h : i ≤ 64) : (rN b i).length = 64 := by simp [rN]; omega
theorem rN_step (b : List Nat) (i : Nat) (h : i < 64) : (rN b i).set i (rawF b i) = rN b (i + 1) := by
  unfold rN
  have e : List.replicate (64 - i) 0 = 0 :: List.replicate (64 - (i + 1)) 0 := by rw [show 64 - i = (64 - (i + 1)) + 1 by omega]; rfl
  rw [List.set_append_right _ _ (by simp), List.length_map, List.length_range, Nat.sub_self, e, List.set_cons_zero, List.range_succ, List.map_append]
  simp only [List.map_cons, List.map_nil, List.append_assoc, List.cons_append, List.nil_append]
theorem rN_nil (i : Nat) (h : i < 64) : rN [] i = rN [] (i + 1) := by
  rw [← rN_step [] i h]
  symm
  have : rawF [] i = 0 := by simp [rawF]
  rw [this]
  refine List.ext_getElem? fun j => ?_
  rw [List.getElem?_set]
  split
  · rename_i e; subst e
    rw [if_pos (by rw [rN_len [] i (by omega)]; exact h)]
    unfold rN
    rw [List.getElem?_append_right (by simp)]
    simp [List.getElem?_replicate]; omega
  · rfl
theorem rawN_C {b : List Nat} (hb : ∀ x ∈ b, x < 256) : C64 (rawN b) := by
  refine ⟨rN_len b 64 (Nat.le_refl _), fun x hx => ?_⟩
  rcases List.mem_append.1 hx with hx | hx
  · obtain ⟨i, _, rfl⟩ := List.mem_map.1 hx
    unfold rawF
    rw [List.getD_eq_getElem?_getD]
    cases e : b[i % b.length]? with
    | none => simp
    | some y => exact hb y (List.mem_of_getElem? e)
  · have := List.eq_of_mem_replicate hx; omega
def SRaw (b : List Nat) (i : Nat) : St := ⟨(.isl 0 1 (byN b) :: .gone 0 :: .ptr (.obj 0 0) :: .ptr (.obj 1 0) :: .gone 0 :: .gone 0 :: .int .i64 i :: .gone 0 :: .gone 0 :: .gone 0 :: .gone 0 :: .gone 0 :: .gone 0 :: .gone 0 :: .gone 0 :: .gone 0 :: .gone 0 :: .gone 0 :: .gone 0 :: .gone 0 :: .gone 0 :: .gone 0 :: .gone 0 :: []), [some (.cells (Z8 64)), some (.cells (byN (rN b i)))]⟩
section
variable (G : VProg)
theorem lraw (hG : G 26 = some (.code v26)) (b : List Nat) (hl : b.length < 2 ^ 40) : lim G 26 [.isl 0 1 (byN b)] [] = some (cellV (rawN b), []) := by
  refine lim_fun hG (h := runV trivial trivial ?_)
  refine WL_loop (SRaw b) (fun i => i ≤ 64) (fun i => 64 - i) ?_ 0 _ (Nat.zero_le _) (by unfold SRaw rN; kernel_rfl)
  intro i hi
  by_cases hi64 : i < 64
  · have hlt : decide ((i : Int) < 64) = true := by simp; omega
    have i1 := inc64 i (by omega)
    have hl0 := rN_len b i (by omega)
    have hl2' := rN_len b (i + 1) (by omega)
    have hst := rN_step b i hi64
    by_cases h0 : b = []
    · subst h0
      have c0 : decide ((0 : Int) < ((([] : List Nat).length : Nat) : Int)) = false := by simp
      have e0 := rN_nil i hi64
      obtain ⟨c, hc⟩ : ∃ c, c = rN [] i := ⟨_, rfl⟩
      unfold SRaw
      rw [← hc]
      rw [← hc] at hl0 e0
      refine runV (And.intro hlt (And.intro i1 (And.intro c0 (cf hl0)))) trivial ?_
      refine Qr_n (i + 1) ?_ ⟨by omega, by omega⟩
      simp only [← e0]
      clear e0 hc hst
      obtain ⟨g, rfl⟩ := exN hl0
      kernel_rfl
    · have hp : 0 < b.length := List.length_pos_iff.2 h0
      have c0 : decide ((0 : Int) < (b.length : Int)) = true := by simp; omega
      have c1 : (i : Int).tmod (b.length : Int) = ((i % b.length : Nat) : Int) := by rw [Int.tmod_eq_emod_of_nonneg (by omega)]; rfl
      have hm := Nat.mod_lt i hp
      have c3 : ((b.length : Int) = 0) = False := by simp; exact h0
      have c4 : binV .rem (.int .i64 (i : Int)) (.int .i64 (b.length : Int)) = some (.int .i64 ((i % b.length : Nat) : Int)) := by simp only [binV, c3, if_false, if_true, c1]
      obtain ⟨x, hx⟩ : ∃ x, x = rawF b i := ⟨_, rfl⟩
      have hg : (byN b)[i % b.length]? = some (.int .u8 (x : Int)) := by
        rw [byN_get b _ hm, hx]; simp [rawF, hm]
      rw [← hx] at hst
      obtain ⟨c, hc⟩ : ∃ c, c = rN b i := ⟨_, rfl⟩
      obtain ⟨c2, hc2⟩ : ∃ c, c = rN b (i + 1) := ⟨_, rfl⟩
      rw [← hc2] at hl2'
      rw [← hc, ← hc2] at hst
      rw [← hc] at hl0
      have e1 := P1.byN_set c i x (by omega)
      rw [hst] at e1
      have d1 : List.take 1 (List.drop i (byN c)) = [V.int .u8 ((c.getD i 0 : Nat) : Int)] := by exact P1.byN_one (by omega)
      have hml : ((i % b.length : Nat) : Int) < (b.length : Int) := by omega
      unfold SRaw
      rw [← hc]
      refine runV (And.intro hlt (And.intro i1 (And.intro c0 (And.intro c1 (And.intro c4 (And.intro hg (And.intro hml (And.intro e1 (And.intro Nat.mul_one (cf hl0)))))))))) (And.intro c4 d1) ?_
      refine Qr_n (i + 1) ?_ ⟨by omega, by omega⟩
      simp only [← hc2]
      clear e1 hst hc2
      obtain ⟨g, rfl⟩ := exN hl2'
      kernel_rfl
  · obtain rfl : i = 64 := by omega
    have hlM : (rawN b).length = 64 := rN_len b 64 (Nat.le_refl _)
    obtain ⟨cc, hcc⟩ : ∃ cc, cc = rawN b := ⟨_, rfl⟩
    have hcc2 : rN b 64 = cc := hcc.symm
    unfold SRaw
    rw [hcc2, ← hcc]
    rw [← hcc] at hlM
    refine runV (cf hlM) trivial ?_
    refine Qr_x ?_
    refine Qb_x (σ1 := ⟨(.gone 0 :: .gone 0 :: .ptr (.obj 0 0) :: .ptr (.obj 1 0) :: .gone 0 :: .gone 0 :: .gone 0 :: .gone 0 :: .gone 0 :: .gone 0 :: .gone 0 :: .gone 0 :: .gone 0 :: .gone 0 :: .gone 0 :: .gone 0 :: .gone 0 :: .gone 0 :: .gone 0 :: .gone 0 :: .gone 0 :: .gone 0 :: .gone 0 :: []), [some (.cells (Z8 64)), some (.cells (byN cc))]⟩) ?_ ?_
    · clear hcc hcc2
      obtain ⟨g, rfl⟩ := exN hlM
      kernel_rfl
    refine runV (cf hlM) trivial ?_
    refine Qe_r ?_
    clear hcc hcc2
    obtain ⟨g, hgg⟩ := exN hlM
    rw [hgg]
    show _ = _
    kernel_rfl
end
end P1
end Go.Vq

