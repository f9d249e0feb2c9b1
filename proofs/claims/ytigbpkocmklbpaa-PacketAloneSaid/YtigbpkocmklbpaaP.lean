/- The V-level machine, run on values that are not known (no law of Go is stated here). -/
import Derived.Test.YtigbpkocmklbpaaT
import Derived.KernelRfl
set_option linter.unusedVariables false
set_option linter.unusedSimpArgs false
set_option linter.unusedSectionVars false
namespace Go.Vq
namespace P1
open Go
set_option maxRecDepth 1000000
set_option maxHeartbeats 4000000
abbrev b55 : VCode := .seq (.region [⟨some 4, .assign (.val (.int .u32 0)), none, 0⟩] false) (.seq (.seq (.region [⟨some 5, .move (.tmp 1), none, 0⟩, ⟨some 6, .move (.val (.int .i64 0)), none, 0⟩] false) (.block 0 (some [0]) (.loop (some [0, 1, 5, 6]) (.seq (.region [⟨some 7, .bin (.lss) (.tmp 6) (.tmp 5), none, 0⟩] false) (.seq (.cond (.tmp 7) (.skip) (.exit 0)) (.seq (.block 1 none (.region [⟨some 8, .move (.tmp 0), none, 0⟩, ⟨some 9, .bin (.shr) (.tmp 8) (.val (.int .u64 1)), none, 1⟩, ⟨some 10, .move (.tmp 0), none, 0⟩, ⟨some 11, .bin (.and) (.tmp 10) (.val (.int .u32 1)), none, 4⟩, ⟨some 12, .un (.neg) (.tmp 11), none, 12⟩, ⟨some 13, .bin (.and) (.val (.int .u32 2197175160)) (.tmp 12), none, 28⟩, ⟨some 14, .bin (.xor) (.tmp 9) (.tmp 13), none, 63⟩, ⟨some 0, .assign (.tmp 14), none, 127⟩] false)) (.region [⟨some 15, .bin (.add) (.tmp 6) (.val (.int .i64 1)), none, 0⟩, ⟨some 6, .move (.tmp 15), none, 1⟩] false))))))) (.seq (.region [⟨some 16, .move (.tmp 0), none, 0⟩, ⟨some 4, .assign (.tmp 16), none, 1⟩] false) (.ret)))
abbrev v55 : VFunc := { nparams := 2, ntmps := 17, nsites := 0, results := [.tmp 4], body := b55 }
abbrev b49 : VCode := .seq (.region [⟨some 2, .assign (.val (.int .u32 0)), none, 0⟩] false) (.seq (.region [⟨some 3, .assign (.val (.int .u32 4294967295)), none, 0⟩] false) (.seq (.seq (.region [⟨some 8, .move (.tmp 0), none, 0⟩, ⟨some 9, .len (.slc 1) (.tmp 8), none, 1⟩, ⟨some 10, .move (.val (.int .i64 0)), none, 0⟩] false) (.block 0 (some [3]) (.loop (some [0, 3, 8, 9, 10]) (.seq (.region [⟨some 11, .bin (.lss) (.tmp 10) (.tmp 9), none, 0⟩] false) (.seq (.cond (.tmp 11) (.skip) (.exit 0)) (.seq (.block 1 (some [0, 3, 8, 9, 10]) (.seq (.region [⟨some 12, .indexAddr none 1 (.tmp 8) (.tmp 10), none, 0⟩, ⟨some 13, .load false 1 (.tmp 12), none, 1⟩, ⟨some 5, .assign (.tmp 13), none, 3⟩] false) (.seq (.region [⟨some 14, .move (.tmp 5), none, 0⟩, ⟨some 15, .len (.slc 1) (.tmp 14), none, 1⟩, ⟨some 16, .move (.val (.int .i64 0)), none, 0⟩] false) (.block 2 (some [0, 3, 8, 9, 10]) (.loop (some [0, 3, 5, 8, 9, 10, 12, 13, 14, 15, 16]) (.seq (.region [⟨some 17, .bin (.lss) (.tmp 16) (.tmp 15), none, 0⟩] false) (.seq (.cond (.tmp 17) (.skip) (.exit 2)) (.seq (.block 3 none (.seq (.region [⟨some 18, .indexAddr none 1 (.tmp 14) (.tmp 16), none, 0⟩, ⟨some 19, .load false 1 (.tmp 18), none, 1⟩, ⟨some 7, .assign (.tmp 19), none, 3⟩] false) (.region [⟨some 20, .move (.tmp 3), none, 0⟩, ⟨some 21, .move (.tmp 7), none, 0⟩, ⟨some 22, .conv (.int (.u32)) (.tmp 21), none, 2⟩, ⟨some 23, .bin (.xor) (.tmp 20) (.tmp 22), none, 7⟩, ⟨some 24, .call true 55 0 [(.tmp 23), (.val (.int .i64 8))], none, 15⟩, ⟨some 3, .assign (.tmp 24), none, 31⟩] false))) (.region [⟨some 25, .bin (.add) (.tmp 16) (.val (.int .i64 1)), none, 0⟩, ⟨some 16, .move (.tmp 25), none, 1⟩] false))))))))) (.region [⟨some 26, .bin (.add) (.tmp 10) (.val (.int .i64 1)), none, 0⟩, ⟨some 10, .move (.tmp 26), none, 1⟩] false))))))) (.seq (.region [⟨some 27, .move (.tmp 3), none, 0⟩, ⟨some 28, .un (.xor) (.tmp 27), none, 1⟩, ⟨some 2, .assign (.tmp 28), none, 3⟩] false) (.ret))))
abbrev v49 : VFunc := { nparams := 1, ntmps := 29, nsites := 0, results := [.tmp 2], body := b49 }
abbrev b56 : VCode := .seq (.region [⟨some 2, .assign (.val (.int .u64 0)), none, 0⟩] false) (.seq (.seq (.region [⟨some 3, .move (.tmp 0), none, 0⟩, ⟨some 4, .bin (.rem) (.tmp 3) (.val (.int .u64 2)), none, 1⟩, ⟨some 5, .eq false (.num) (.tmp 4) (.val (.int .u64 1)), none, 3⟩] false) (.cond (.tmp 5) (.seq (.region [⟨some 6, .move (.tmp 0), none, 0⟩, ⟨some 7, .bin (.quo) (.tmp 6) (.val (.int .u64 2)), none, 1⟩, ⟨some 8, .bin (.xor) (.tmp 7) (.val (.int .u64 2197175160)), none, 3⟩, ⟨some 2, .assign (.tmp 8), none, 7⟩] false) (.ret)) (.skip))) (.seq (.region [⟨some 9, .move (.tmp 0), none, 0⟩, ⟨some 10, .bin (.quo) (.tmp 9) (.val (.int .u64 2)), none, 1⟩, ⟨some 2, .assign (.tmp 10), none, 3⟩] false) (.ret)))
abbrev v56 : VFunc := { nparams := 1, ntmps := 11, nsites := 0, results := [.tmp 2], body := b56 }
abbrev b51 : VCode := .seq (.region [⟨some 2, .assign (.val (.int .u32 0)), none, 0⟩] false) (.seq (.region [⟨some 3, .assign (.val (.int .u64 4294967295)), none, 0⟩] false) (.seq (.seq (.region [⟨some 7, .move (.tmp 0), none, 0⟩, ⟨some 8, .len (.slc 1) (.tmp 7), none, 1⟩, ⟨some 9, .move (.val (.int .i64 0)), none, 0⟩] false) (.block 0 (some [3]) (.loop (some [0, 3, 7, 8, 9]) (.seq (.region [⟨some 10, .bin (.lss) (.tmp 9) (.tmp 8), none, 0⟩] false) (.seq (.cond (.tmp 10) (.skip) (.exit 0)) (.seq (.block 1 (some [0, 3, 7, 8, 9]) (.seq (.region [⟨some 11, .indexAddr none 1 (.tmp 7) (.tmp 9), none, 0⟩, ⟨some 12, .load false 1 (.tmp 11), none, 1⟩, ⟨some 5, .assign (.tmp 12), none, 3⟩] false) (.seq (.region [⟨some 13, .move (.tmp 3), none, 0⟩, ⟨some 14, .move (.tmp 5), none, 0⟩, ⟨some 15, .conv (.int (.u64)) (.tmp 14), none, 2⟩, ⟨some 16, .bin (.xor) (.tmp 13) (.tmp 15), none, 7⟩, ⟨some 3, .assign (.tmp 16), none, 15⟩] false) (.seq (.region [⟨some 6, .assign (.val (.int .i64 0)), none, 0⟩] false) (.block 2 (some [0, 3, 7, 8, 9]) (.loop (some [0, 3, 6, 7, 8, 9]) (.seq (.seq (.region [⟨some 17, .move (.tmp 6), none, 0⟩, ⟨some 18, .bin (.lss) (.tmp 17) (.val (.int .i64 8)), none, 1⟩] false) (.cond (.tmp 18) (.skip) (.exit 2))) (.seq (.block 3 none (.region [⟨some 21, .move (.tmp 3), none, 0⟩, ⟨some 22, .call true 56 0 [(.tmp 21)], none, 1⟩, ⟨some 3, .assign (.tmp 22), none, 3⟩] false)) (.region [⟨some 19, .move (.tmp 6), none, 0⟩, ⟨some 20, .bin (.add) (.tmp 19) (.val (.int .i64 1)), none, 1⟩, ⟨some 6, .assign (.tmp 20), none, 3⟩] false))))))))) (.region [⟨some 23, .bin (.add) (.tmp 9) (.val (.int .i64 1)), none, 0⟩, ⟨some 9, .move (.tmp 23), none, 1⟩] false))))))) (.seq (.region [⟨some 24, .move (.tmp 3), none, 0⟩, ⟨some 25, .bin (.sub) (.val (.int .u64 4294967295)) (.tmp 24), none, 1⟩, ⟨some 26, .conv (.int (.u32)) (.tmp 25), none, 3⟩, ⟨some 2, .assign (.tmp 26), none, 7⟩] false) (.ret))))
abbrev v51 : VFunc := { nparams := 1, ntmps := 27, nsites := 0, results := [.tmp 2], body := b51 }
/-! ### numbers -/
theorem wrapi64 (n : Int) (h1 : -9223372036854775808 ≤ n) (h2 : n < 9223372036854775808) : IntKind.i64.wrap n = n := by
  simp only [IntKind.wrap, IntKind.bits, IntKind.signed]; simp; omega
theorem inc64 (i : Nat) (h : i < 4611686018427387904) : IntKind.i64.wrap ((i : Int) + 1) = ((i + 1 : Nat) : Int) := by
  rw [wrapi64 _ (by omega) (by omega)]; rfl
theorem xorN {w : Nat} (A B : Nat) (hA : A < 2 ^ w) (hB : B < 2 ^ w) : (BitVec.ofInt w (A : Int) ^^^ BitVec.ofInt w (B : Int)).toNat = A ^^^ B := by
  simp only [BitVec.ofInt_natCast, BitVec.toNat_xor, BitVec.toNat_ofNat, Nat.mod_eq_of_lt hA, Nat.mod_eq_of_lt hB]
theorem andN {w : Nat} (A B : Nat) (hA : A < 2 ^ w) (hB : B < 2 ^ w) : (BitVec.ofInt w (A : Int) &&& BitVec.ofInt w (B : Int)).toNat = A &&& B := by
  simp only [BitVec.ofInt_natCast, BitVec.toNat_and, BitVec.toNat_ofNat, Nat.mod_eq_of_lt hA, Nat.mod_eq_of_lt hB]
theorem orN {w : Nat} (A B : Nat) (hA : A < 2 ^ w) (hB : B < 2 ^ w) : (BitVec.ofInt w (A : Int) ||| BitVec.ofInt w (B : Int)).toNat = A ||| B := by
  simp only [BitVec.ofInt_natCast, BitVec.toNat_or, BitVec.toNat_ofNat, Nat.mod_eq_of_lt hA, Nat.mod_eq_of_lt hB]
theorem wrap8 (n : Nat) (h : n < 256) : IntKind.u8.wrap (n : Int) = n := by
  simp only [IntKind.wrap, IntKind.bits, IntKind.signed]; simp; omega
theorem wrap32 (n : Nat) (h : n < 2 ^ 32) : IntKind.u32.wrap (n : Int) = n := by
  simp only [IntKind.wrap, IntKind.bits, IntKind.signed]; simp; omega
theorem wrap64 (n : Nat) (h : n < 2 ^ 64) : IntKind.u64.wrap (n : Int) = n := by
  simp only [IntKind.wrap, IntKind.bits, IntKind.signed]; simp; omega
def poly : Nat := 2197175160
/-- One halving on. -/
def stepN (n : Nat) : Nat := if n % 2 = 1 then (n / 2) ^^^ poly else n / 2
theorem stepN_lt (n : Nat) (h : n < 2 ^ 32) : stepN n < 2 ^ 32 := by
  unfold stepN
  split
  · exact Nat.xor_lt_two_pow (by omega) (by decide)
  · omega
def halN : Nat → Nat → Nat
  | 0, n => n
  | k + 1, n => halN k (stepN n)
theorem halN_lt : ∀ (k n : Nat), n < 2 ^ 32 → halN k n < 2 ^ 32
  | 0, n, h => h
  | k + 1, n, h => halN_lt k _ (stepN_lt n h)
def onB (n : Nat) (x : Nat) : Nat := halN 8 (n ^^^ x)
theorem onB_lt (n x : Nat) (h : n < 2 ^ 32) (hx : x < 256) : onB n x < 2 ^ 32 := halN_lt _ _ (Nat.xor_lt_two_pow h (by omega))
def crcN (n : Nat) (l : List Nat) : Nat := l.foldl onB n
theorem crcN_lt : ∀ (l : List Nat) (n : Nat), n < 2 ^ 32 → (∀ x ∈ l, x < 256) → crcN n l < 2 ^ 32
  | [], n, h, _ => h
  | x :: l, n, h, hl => crcN_lt l _ (onB_lt n x h (hl x (by simp))) fun y hy => hl y (by simp [hy])
def crc (l : List Nat) : Nat := 4294967295 - crcN 4294967295 l
def x55 (n : Int) : Int := IntKind.u32.wrap (BitVec.ofInt 32 (n.fdiv (2 ^ 1)) ^^^ BitVec.ofInt 32 (IntKind.u32.wrap (BitVec.ofInt 32 2197175160 &&& BitVec.ofInt 32 (IntKind.u32.wrap (0 - IntKind.u32.wrap (BitVec.ofInt 32 n &&& BitVec.ofInt 32 1).toNat))).toNat)).toNat
theorem x55_eq (n : Nat) (h : n < 2 ^ 32) : x55 n = stepN n := by
  have e1 : (n : Int).fdiv (2 ^ 1) = ((n / 2 : Nat) : Int) := by rw [Int.fdiv_eq_ediv_of_nonneg _ (by decide)]; rfl
  have e2 : (BitVec.ofInt 32 (n : Int) &&& BitVec.ofInt 32 1).toNat = n % 2 := by
    rw [show (1 : Int) = ((1 : Nat) : Int) from rfl, andN n 1 h (by decide), Nat.and_one_is_mod]
  unfold x55 stepN
  rw [e1, e2]
  rcases Nat.mod_two_eq_zero_or_one n with h0 | h0
  · have e3 : (BitVec.ofInt 32 2197175160 &&& BitVec.ofInt 32 (IntKind.u32.wrap (0 - IntKind.u32.wrap ((0 : Nat) : Int)))).toNat = 0 := by decide
    rw [h0, e3, if_neg (by decide), wrap32 0 (by decide), xorN _ _ (by omega) (by decide), Nat.xor_zero, wrap32 _ (by omega)]
  · have e3 : (BitVec.ofInt 32 2197175160 &&& BitVec.ofInt 32 (IntKind.u32.wrap (0 - IntKind.u32.wrap ((1 : Nat) : Int)))).toNat = poly := by decide
    rw [h0, e3, if_pos rfl, wrap32 poly (by decide), xorN _ _ (by omega) (by decide), wrap32 _ (Nat.xor_lt_two_pow (by omega) (by decide))]
section
variable (G : VProg)
theorem halves (hG : G 55 = some (.code v55)) (n : Nat) (hn : n < 2 ^ 32) : lim G 55 [.int .u32 n, .int .i64 8] [] = some (.int .u32 (halN 8 n : Nat), []) := by
  refine lim_fun hG (h := runV trivial trivial ?_)
  refine WL_loop (fun a : Nat × Nat => ⟨(.int .u32 (a.2 : Nat) :: .int .i64 8 :: .gone 0 :: .gone 0 :: .gone 0 :: .int .i64 8 :: .int .i64 (a.1 : Nat) :: .gone 0 :: .gone 0 :: .gone 0 :: .gone 0 :: .gone 0 :: .gone 0 :: .gone 0 :: .gone 0 :: .gone 0 :: .gone 0 :: []), []⟩) (fun a => a.1 ≤ 8 ∧ a.2 < 2 ^ 32 ∧ halN (8 - a.1) a.2 = halN 8 n) (fun a => 8 - a.1) ?_ (0, n) _ ⟨by omega, hn, rfl⟩ (by kernel_rfl)
  rintro ⟨i, x⟩ ⟨hi, hx, hh⟩
  simp only at hi hx hh ⊢
  by_cases h : i < 8
  · have hlt : decide ((i : Int) < 8) = true := by simp; omega
    have hadd := inc64 i (by omega)
    have e : 8 - i = 8 - (i + 1) + 1 := by omega
    rw [e] at hh
    refine runV (And.intro hlt hadd) trivial ?_
    refine Qr_n (i + 1, stepN x) ?_ ⟨⟨by simp only; omega, stepN_lt x hx, hh⟩, by simp only; omega⟩
    simp only [← x55_eq x hx]
    kernel_rfl
  · obtain rfl : i = 8 := by omega
    have hlt : decide (((8 : Nat) : Int) < 8) = false := by decide
    simp only [Nat.sub_self, halN] at hh
    subst hh
    refine runV hlt trivial ?_
    refine Qr_x ?_
    refine Qb_x (σ1 := ⟨(.int .u32 (halN 8 n : Nat) :: .gone 0 :: .gone 0 :: .gone 0 :: .gone 0 :: .gone 0 :: .gone 0 :: .gone 0 :: .gone 0 :: .gone 0 :: .gone 0 :: .gone 0 :: .gone 0 :: .gone 0 :: .gone 0 :: .gone 0 :: .gone 0 :: []), []⟩) (by kernel_rfl) ?_
    exact runV trivial trivial trivial
theorem step (hG : G 56 = some (.code v56)) (n : Nat) (hn : n < 2 ^ 32) : lim G 56 [.int .u64 n] [] = some (.int .u64 (stepN n : Nat), []) := by
  have e1 : IntKind.u64.wrap ((n : Int).tdiv 2) = ((n / 2 : Nat) : Int) := by
    rw [Int.tdiv_eq_ediv_of_nonneg (by omega)]
    exact wrap64 (n / 2) (by omega)
  have e4 : IntKind.u64.wrap (BitVec.ofInt IntKind.u64.bits ((n / 2 : Nat) : Int) ^^^ BitVec.ofInt IntKind.u64.bits 2197175160).toNat = ((n / 2) ^^^ poly : Nat) := by
    show IntKind.u64.wrap (BitVec.ofInt 64 ((n / 2 : Nat) : Int) ^^^ BitVec.ofInt 64 2197175160).toNat = _
    rw [show (2197175160 : Int) = ((poly : Nat) : Int) from rfl, xorN _ _ (by omega) (by decide), wrap64 _ (by
      have := Nat.xor_lt_two_pow (n := 32) (show n / 2 < 2 ^ 32 by omega) (show poly < 2 ^ 32 by decide)
      omega)]
  have e5 : (n : Int).tmod 2 = ((n % 2 : Nat) : Int) := by rw [Int.tmod_eq_emod_of_nonneg (by omega)]; rfl
  by_cases h : n % 2 = 1
  · have hs : stepN n = (n / 2) ^^^ poly := by unfold stepN; rw [if_pos h]
    have hc : ((n : Int).tmod 2 == 1) = true := by rw [e5, h]; rfl
    rw [hs]
    exact lim_fun hG (h := runV (And.intro hc (And.intro e1 e4)) trivial trivial)
  · have hs : stepN n = n / 2 := by unfold stepN; rw [if_neg h]
    have hc : ((n : Int).tmod 2 == 1) = false := by
      have : n % 2 = 0 := by omega
      rw [e5, this]; rfl
    rw [hs]
    exact lim_fun hG (h := runV (And.intro hc (And.intro e1 e4)) trivial trivial)
theorem byN_get (l : List Nat) (i : Nat) (h : i < l.length) : (byN l)[i]? = some (.int .u8 (l[i] : Nat)) := by simp [byN, h]
theorem not32 (n : Nat) (hn : n < 2 ^ 32) : IntKind.u32.wrap (BitVec.ofInt 32 IntKind.u32.max ^^^ BitVec.ofInt 32 (n : Int)).toNat = ((4294967295 - n : Nat) : Int) := by
  rw [show (IntKind.u32.max : Int) = ((4294967295 : Nat) : Int) from rfl]
  have e : (BitVec.ofInt 32 ((4294967295 : Nat) : Int) ^^^ BitVec.ofInt 32 (n : Int)).toNat = 4294967295 - n := by
    simp only [BitVec.ofInt_natCast]
    have h1 : BitVec.ofNat 32 4294967295 = BitVec.allOnes 32 := by decide
    rw [h1, BitVec.allOnes_xor, BitVec.toNat_not, BitVec.toNat_ofNat, Nat.mod_eq_of_lt hn]
  rw [e, wrap32 _ (by omega)]
theorem crcN_at (l : List Nat) (n i : Nat) (h : i < l.length) : crcN n (l.drop i) = crcN (onB n l[i]) (l.drop (i + 1)) := by rw [List.drop_eq_getElem_cons h]; rfl
/-- check.Of, of one piece. -/
theorem of1 (hG : G 49 = some (.code v49)) (h55 : ∀ n : Nat, n < 2 ^ 32 → lim G 55 [.int .u32 n, .int .i64 8] [] = some (.int .u32 (halN 8 n : Nat), []))
    (l : List Nat) (hl : l.length < 2 ^ 40) (hb : ∀ x ∈ l, x < 256) : lim G 49 [.isl 0 1 [.isl 0 1 (byN l)]] [] = some (.int .u32 (crc l : Nat), []) := by
  have h0 : IntKind.u32.wrap (BitVec.ofInt IntKind.u32.bits (if IntKind.u32.signed = true then -1 else IntKind.u32.max) ^^^ BitVec.ofInt IntKind.u32.bits 0).toNat = ((4294967295 : Nat) : Int) := by decide
  refine lim_fun hG (h := runV h0 trivial ?_)
  refine WL_unroll (σ1 := ⟨(.isl 0 1 [.isl 0 1 (byN l)] :: .gone 0 :: .gone 0 :: .int .u32 4294967295 :: .gone 0 :: .gone 0 :: .gone 0 :: .gone 0 :: .isl 0 1 [.isl 0 1 (byN l)] :: .int .i64 (1 : Nat) :: .int .i64 0 :: .gone 0 :: .gone 0 :: .gone 0 :: .gone 0 :: .gone 0 :: .gone 0 :: .gone 0 :: .gone 0 :: .gone 0 :: .gone 0 :: .gone 0 :: .gone 0 :: .gone 0 :: .gone 0 :: .gone 0 :: .gone 0 :: .gone 0 :: .gone 0 :: []), []⟩) (by kernel_rfl) ?_
  refine runV trivial trivial ?_
  refine WL_loop (fun a : Nat × Nat => ⟨(.isl 0 1 [.isl 0 1 (byN l)] :: .gone 0 :: .gone 0 :: .int .u32 (a.2 : Nat) :: .gone 0 :: .isl 0 1 (byN l) :: .gone 0 :: .gone 0 :: .isl 0 1 [.isl 0 1 (byN l)] :: .int .i64 (1 : Nat) :: .int .i64 0 :: .gone 0 :: .iptr [.isl 0 1 (byN l)] :: .isl 0 1 (byN l) :: .isl 0 1 (byN l) :: .int .i64 l.length :: .int .i64 (a.1 : Nat) :: .gone 0 :: .gone 0 :: .gone 0 :: .gone 0 :: .gone 0 :: .gone 0 :: .gone 0 :: .gone 0 :: .gone 0 :: .gone 0 :: .gone 0 :: .gone 0 :: []), []⟩)
    (fun a => a.1 ≤ l.length ∧ a.2 < 2 ^ 32 ∧ crcN a.2 (l.drop a.1) = crcN 4294967295 l) (fun a => l.length - a.1) ?_ (0, 4294967295) _ ⟨by omega, by decide, rfl⟩ (by kernel_rfl)
  rintro ⟨i, x⟩ ⟨hi, hx, hh⟩
  simp only at hi hx hh ⊢
  by_cases h : i < l.length
  · have hlt : decide ((i : Int) < (l.length : Int)) = true := by simp; omega
    have hadd := inc64 i (by omega)
    have hg := byN_get l i h
    have hbi := hb _ (List.getElem_mem h)
    have hw : IntKind.u32.wrap (BitVec.ofInt IntKind.u32.bits (x : Int) ^^^ BitVec.ofInt IntKind.u32.bits (IntKind.u32.wrap ((l[i] : Nat) : Int))).toNat = ((x ^^^ l[i] : Nat) : Int) := by
      show IntKind.u32.wrap (BitVec.ofInt 32 (x : Int) ^^^ BitVec.ofInt 32 (IntKind.u32.wrap ((l[i] : Nat) : Int))).toNat = _
      rw [wrap32 l[i] (by omega), xorN _ _ hx (by omega), wrap32 _ (Nat.xor_lt_two_pow hx (by omega))]
    have hc := h55 (x ^^^ l[i]) (Nat.xor_lt_two_pow hx (by omega))
    rw [crcN_at l x i h] at hh
    refine runV (And.intro hlt (And.intro hadd (And.intro hg hw))) trivial ?_
    exact Qr_n (i + 1, onB x l[i]) (by kernel_rfl) ⟨⟨by simp only; omega, onB_lt x l[i] hx hbi, hh⟩, by simp only; omega⟩
  · obtain rfl : i = l.length := by omega
    have hlt : decide ((l.length : Int) < (l.length : Int)) = false := by simp
    rw [List.drop_length] at hh
    have hhx : x = crcN 4294967295 l := hh
    subst hhx
    refine runV hlt trivial ?_
    refine Qr_x ?_
    refine Qb_x (σ1 := ⟨(.isl 0 1 [.isl 0 1 (byN l)] :: .gone 0 :: .gone 0 :: .int .u32 (crcN 4294967295 l : Nat) :: .gone 0 :: .gone 0 :: .gone 0 :: .gone 0 :: .isl 0 1 [.isl 0 1 (byN l)] :: .int .i64 (1 : Nat) :: .int .i64 0 :: .gone 0 :: .gone 0 :: .gone 0 :: .gone 0 :: .gone 0 :: .gone 0 :: .gone 0 :: .gone 0 :: .gone 0 :: .gone 0 :: .gone 0 :: .gone 0 :: .gone 0 :: .gone 0 :: .gone 0 :: .gone 0 :: .gone 0 :: .gone 0 :: []), []⟩) (by kernel_rfl) ?_
    refine Qb_n (σ1 := ⟨(.isl 0 1 [.isl 0 1 (byN l)] :: .gone 0 :: .gone 0 :: .int .u32 (crcN 4294967295 l : Nat) :: .gone 0 :: .gone 0 :: .gone 0 :: .gone 0 :: .isl 0 1 [.isl 0 1 (byN l)] :: .int .i64 (1 : Nat) :: .int .i64 0 :: .gone 0 :: .gone 0 :: .gone 0 :: .gone 0 :: .gone 0 :: .gone 0 :: .gone 0 :: .gone 0 :: .gone 0 :: .gone 0 :: .gone 0 :: .gone 0 :: .gone 0 :: .gone 0 :: .gone 0 :: .gone 0 :: .gone 0 :: .gone 0 :: []), []⟩) (by kernel_rfl) ?_
    have e1 : IntKind.i64.wrap (0 + 1) = ((1 : Nat) : Int) := by decide
    have hlt1 : decide (((1 : Nat) : Int) < ((1 : Nat) : Int)) = false := by decide
    refine runV e1 trivial ?_
    refine Qu_n ?_
    refine WL_unroll (σ1 := ⟨(.isl 0 1 [.isl 0 1 (byN l)] :: .gone 0 :: .gone 0 :: .int .u32 (crcN 4294967295 l : Nat) :: .gone 0 :: .gone 0 :: .gone 0 :: .gone 0 :: .isl 0 1 [.isl 0 1 (byN l)] :: .int .i64 (1 : Nat) :: .int .i64 (1 : Nat) :: .gone 0 :: .gone 0 :: .gone 0 :: .gone 0 :: .gone 0 :: .gone 0 :: .gone 0 :: .gone 0 :: .gone 0 :: .gone 0 :: .gone 0 :: .gone 0 :: .gone 0 :: .gone 0 :: .gone 0 :: .gone 0 :: .gone 0 :: .gone 0 :: []), []⟩) (by kernel_rfl) ?_
    refine runV hlt1 trivial ?_
    refine Qu_x ?_
    refine Qb_x (σ1 := ⟨(.gone 0 :: .gone 0 :: .gone 0 :: .int .u32 (crcN 4294967295 l : Nat) :: .gone 0 :: .gone 0 :: .gone 0 :: .gone 0 :: .gone 0 :: .gone 0 :: .gone 0 :: .gone 0 :: .gone 0 :: .gone 0 :: .gone 0 :: .gone 0 :: .gone 0 :: .gone 0 :: .gone 0 :: .gone 0 :: .gone 0 :: .gone 0 :: .gone 0 :: .gone 0 :: .gone 0 :: .gone 0 :: .gone 0 :: .gone 0 :: .gone 0 :: []), []⟩) (by kernel_rfl) ?_
    have hn : IntKind.u32.wrap (BitVec.ofInt IntKind.u32.bits (if IntKind.u32.signed = true then -1 else IntKind.u32.max) ^^^ BitVec.ofInt IntKind.u32.bits ((crcN 4294967295 l : Nat) : Int)).toNat = ((crc l : Nat) : Int) := not32 _ hx
    exact runV hn trivial trivial
end
end P1
end Go.Vq

namespace Go.Vq
namespace P1
open Go
set_option maxRecDepth 1000000
set_option maxHeartbeats 4000000
abbrev b52 : VCode := .seq (.region [⟨some 4, .assign (.val (.int .u64 0)), none, 0⟩, ⟨some 5, .assign (.val (.int .i64 0)), none, 1⟩] false) (.seq (.region [⟨some 6, .assign (.val (.int .u64 0)), none, 0⟩] false) (.seq (.seq (.region [⟨some 10, .move (.tmp 0), none, 0⟩, ⟨some 11, .len (.slc 1) (.tmp 10), none, 1⟩, ⟨some 12, .move (.val (.int .i64 0)), none, 0⟩] false) (.block 0 (some []) (.loop (some [0, 1, 6, 10, 11, 12]) (.seq (.region [⟨some 13, .bin (.lss) (.tmp 12) (.tmp 11), none, 0⟩] false) (.seq (.cond (.tmp 13) (.skip) (.exit 0)) (.seq (.block 1 none (.seq (.region [⟨some 14, .move (.tmp 12), none, 0⟩, ⟨some 15, .indexAddr none 1 (.tmp 10) (.tmp 12), none, 0⟩, ⟨some 16, .load false 1 (.tmp 15), none, 2⟩, ⟨some 7, .assign (.tmp 14), none, 7⟩, ⟨some 8, .assign (.tmp 16), none, 15⟩] false) (.seq (.region [⟨some 17, .move (.tmp 8), none, 0⟩, ⟨some 18, .bin (.and) (.tmp 17) (.val (.int .u8 127)), none, 1⟩, ⟨some 19, .conv (.int (.u64)) (.tmp 18), none, 3⟩, ⟨some 9, .assign (.tmp 19), none, 7⟩] false) (.seq (.seq (.region [⟨some 20, .move (.tmp 7), none, 0⟩, ⟨some 21, .eq false (.num) (.tmp 20) (.val (.int .i64 9)), none, 1⟩, ⟨some 22, .move (.tmp 21), none, 3⟩, ⟨some 23, .move (.tmp 8), some (22, true), 7⟩, ⟨some 24, .bin (.gtr) (.tmp 23) (.val (.int .u8 1)), some (22, true), 15⟩, ⟨some 25, .pick (.tmp 22) (.tmp 24) (.val (.bool false)), none, 31⟩, ⟨some 26, .move (.tmp 25), none, 63⟩, ⟨some 27, .move (.tmp 7), some (26, false), 127⟩, ⟨some 28, .bin (.gtr) (.tmp 27) (.val (.int .i64 0)), some (26, false), 255⟩, ⟨some 29, .move (.tmp 28), some (26, false), 511⟩, ⟨some 30, .move (.tmp 8), some (29, true), 1023⟩, ⟨some 31, .eq false (.num) (.tmp 30) (.val (.int .u8 0)), some (29, true), 2047⟩, ⟨some 32, .pick (.tmp 29) (.tmp 31) (.val (.bool false)), some (26, false), 4095⟩, ⟨some 33, .pick (.tmp 26) (.val (.bool true)) (.tmp 32), none, 8191⟩, ⟨some 34, .move (.tmp 33), none, 16383⟩, ⟨some 35, .move (.tmp 9), some (34, false), 32767⟩, ⟨some 36, .move (.tmp 1), some (34, false), 32767⟩, ⟨some 37, .move (.tmp 7), some (34, false), 32767⟩, ⟨some 38, .bin (.mul) (.val (.int .i64 7)) (.tmp 37), some (34, false), 163839⟩, ⟨some 39, .bin (.shr) (.tmp 36) (.tmp 38), some (34, false), 491519⟩, ⟨some 40, .bin (.gtr) (.tmp 35) (.tmp 39), some (34, false), 1048575⟩, ⟨some 41, .pick (.tmp 34) (.val (.bool true)) (.tmp 40), none, 2097151⟩] false) (.cond (.tmp 41) (.seq (.region [⟨some 4, .assign (.val (.int .u64 0)), none, 0⟩, ⟨some 5, .assign (.val (.int .i64 (-1))), none, 1⟩] false) (.ret)) (.skip))) (.seq (.region [⟨some 42, .move (.tmp 6), none, 0⟩, ⟨some 43, .move (.tmp 9), none, 0⟩, ⟨some 44, .move (.tmp 7), none, 0⟩, ⟨some 45, .bin (.mul) (.val (.int .i64 7)) (.tmp 44), none, 4⟩, ⟨some 46, .bin (.shl) (.tmp 43) (.tmp 45), none, 14⟩, ⟨some 47, .bin (.or) (.tmp 42) (.tmp 46), none, 31⟩, ⟨some 6, .assign (.tmp 47), none, 63⟩] false) (.seq (.seq (.region [⟨some 48, .move (.tmp 6), none, 0⟩, ⟨some 49, .move (.tmp 1), none, 0⟩, ⟨some 50, .bin (.gtr) (.tmp 48) (.tmp 49), none, 3⟩] false) (.cond (.tmp 50) (.seq (.region [⟨some 4, .assign (.val (.int .u64 0)), none, 0⟩, ⟨some 5, .assign (.val (.int .i64 (-1))), none, 1⟩] false) (.ret)) (.skip))) (.seq (.seq (.region [⟨some 51, .move (.tmp 8), none, 0⟩, ⟨some 52, .bin (.lss) (.tmp 51) (.val (.int .u8 128)), none, 1⟩] false) (.cond (.tmp 52) (.seq (.region [⟨some 53, .move (.tmp 6), none, 0⟩, ⟨some 54, .move (.tmp 7), none, 0⟩, ⟨some 55, .bin (.add) (.tmp 54) (.val (.int .i64 1)), none, 2⟩, ⟨some 4, .assign (.tmp 53), none, 1⟩, ⟨some 5, .assign (.tmp 55), none, 15⟩] false) (.ret)) (.skip))) (.seq (.region [⟨some 56, .move (.tmp 1), none, 0⟩, ⟨some 57, .move (.tmp 6), none, 0⟩, ⟨some 58, .bin (.sub) (.tmp 56) (.tmp 57), none, 3⟩, ⟨some 59, .move (.tmp 7), none, 0⟩, ⟨some 60, .bin (.add) (.tmp 59) (.val (.int .i64 1)), none, 8⟩, ⟨some 61, .bin (.mul) (.val (.int .i64 7)) (.tmp 60), none, 24⟩, ⟨some 62, .bin (.shl) (.val (.int .u64 1)) (.tmp 61), none, 56⟩, ⟨some 63, .bin (.lss) (.tmp 58) (.tmp 62), none, 127⟩] false) (.cond (.tmp 63) (.seq (.region [⟨some 4, .assign (.val (.int .u64 0)), none, 0⟩, ⟨some 5, .assign (.val (.int .i64 (-1))), none, 1⟩] false) (.ret)) (.skip)))))))))) (.region [⟨some 64, .bin (.add) (.tmp 12) (.val (.int .i64 1)), none, 0⟩, ⟨some 12, .move (.tmp 64), none, 1⟩] false))))))) (.seq (.region [⟨some 4, .assign (.val (.int .u64 0)), none, 0⟩, ⟨some 5, .assign (.val (.int .i64 0)), none, 1⟩] false) (.ret))))
abbrev v52 : VFunc := { nparams := 2, ntmps := 65, nsites := 0, results := [.tmp 4, .tmp 5], body := b52 }
abbrev b42 : VCode := .seq (.region [⟨some 4, .assign (.val (.int .u64 0)), none, 0⟩, ⟨some 5, .assign (.val (.int .i64 0)), none, 1⟩] false) (.seq (.region [⟨some 6, .assign (.val (.int .u64 0)), none, 0⟩, ⟨some 7, .assign (.val (.int .u64 1)), none, 1⟩] false) (.seq (.seq (.region [⟨some 8, .assign (.val (.int .i64 0)), none, 0⟩] false) (.block 0 (some []) (.loop (some [0, 1, 6, 7, 8]) (.seq (.seq (.region [⟨some 10, .move (.tmp 8), none, 0⟩, ⟨some 11, .move (.tmp 0), none, 0⟩, ⟨some 12, .len (.slc 1) (.tmp 11), none, 2⟩, ⟨some 13, .bin (.lss) (.tmp 10) (.tmp 12), none, 7⟩] false) (.cond (.tmp 13) (.skip) (.exit 0))) (.seq (.block 1 none (.seq (.region [⟨some 16, .move (.tmp 0), none, 0⟩, ⟨some 17, .move (.tmp 8), none, 0⟩, ⟨some 18, .indexAddr none 1 (.tmp 16) (.tmp 17), none, 3⟩, ⟨some 19, .load false 1 (.tmp 18), none, 7⟩, ⟨some 20, .bin (.rem) (.tmp 19) (.val (.int .u8 128)), none, 15⟩, ⟨some 21, .conv (.int (.u64)) (.tmp 20), none, 31⟩, ⟨some 9, .assign (.tmp 21), none, 63⟩] false) (.seq (.seq (.region [⟨some 22, .move (.tmp 8), none, 0⟩, ⟨some 23, .eq false (.num) (.tmp 22) (.val (.int .i64 9)), none, 1⟩, ⟨some 24, .move (.tmp 23), none, 3⟩, ⟨some 25, .move (.tmp 0), some (24, true), 7⟩, ⟨some 26, .move (.tmp 8), some (24, true), 7⟩, ⟨some 27, .indexAddr none 1 (.tmp 25) (.tmp 26), some (24, true), 31⟩, ⟨some 28, .load false 1 (.tmp 27), some (24, true), 63⟩, ⟨some 29, .bin (.gtr) (.tmp 28) (.val (.int .u8 1)), some (24, true), 127⟩, ⟨some 30, .pick (.tmp 24) (.tmp 29) (.val (.bool false)), none, 255⟩, ⟨some 31, .move (.tmp 30), none, 511⟩, ⟨some 32, .move (.tmp 8), some (31, false), 1023⟩, ⟨some 33, .bin (.gtr) (.tmp 32) (.val (.int .i64 9)), some (31, false), 2047⟩, ⟨some 34, .pick (.tmp 31) (.val (.bool true)) (.tmp 33), none, 4095⟩, ⟨some 35, .move (.tmp 34), none, 8191⟩, ⟨some 36, .move (.tmp 0), some (35, false), 16383⟩, ⟨some 37, .move (.tmp 8), some (35, false), 16383⟩, ⟨some 38, .indexAddr none 1 (.tmp 36) (.tmp 37), some (35, false), 65535⟩, ⟨some 39, .load false 1 (.tmp 38), some (35, false), 131071⟩, ⟨some 40, .eq false (.num) (.tmp 39) (.val (.int .u8 0)), some (35, false), 262143⟩, ⟨some 41, .move (.tmp 40), some (35, false), 524287⟩, ⟨some 42, .move (.tmp 8), some (41, true), 1048575⟩, ⟨some 43, .bin (.gtr) (.tmp 42) (.val (.int .i64 0)), some (41, true), 2097151⟩, ⟨some 44, .pick (.tmp 41) (.tmp 43) (.val (.bool false)), some (35, false), 4194303⟩, ⟨some 45, .pick (.tmp 35) (.val (.bool true)) (.tmp 44), none, 8388607⟩] false) (.cond (.tmp 45) (.seq (.region [⟨some 4, .assign (.val (.int .u64 0)), none, 0⟩, ⟨some 5, .assign (.val (.int .i64 (-1))), none, 1⟩] false) (.ret)) (.skip))) (.seq (.region [⟨some 46, .move (.tmp 6), none, 0⟩, ⟨some 47, .move (.tmp 9), none, 0⟩, ⟨some 48, .move (.tmp 7), none, 0⟩, ⟨some 49, .bin (.mul) (.tmp 47) (.tmp 48), none, 6⟩, ⟨some 50, .bin (.add) (.tmp 46) (.tmp 49), none, 15⟩, ⟨some 6, .assign (.tmp 50), none, 31⟩] false) (.seq (.seq (.region [⟨some 51, .move (.tmp 6), none, 0⟩, ⟨some 52, .move (.tmp 1), none, 0⟩, ⟨some 53, .bin (.gtr) (.tmp 51) (.tmp 52), none, 3⟩] false) (.cond (.tmp 53) (.seq (.region [⟨some 4, .assign (.val (.int .u64 0)), none, 0⟩, ⟨some 5, .assign (.val (.int .i64 (-1))), none, 1⟩] false) (.ret)) (.skip))) (.seq (.seq (.region [⟨some 54, .move (.tmp 0), none, 0⟩, ⟨some 55, .move (.tmp 8), none, 0⟩, ⟨some 56, .indexAddr none 1 (.tmp 54) (.tmp 55), none, 3⟩, ⟨some 57, .load false 1 (.tmp 56), none, 7⟩, ⟨some 58, .bin (.lss) (.tmp 57) (.val (.int .u8 128)), none, 15⟩] false) (.cond (.tmp 58) (.seq (.region [⟨some 59, .move (.tmp 6), none, 0⟩, ⟨some 60, .move (.tmp 8), none, 0⟩, ⟨some 61, .bin (.add) (.tmp 60) (.val (.int .i64 1)), none, 2⟩, ⟨some 4, .assign (.tmp 59), none, 1⟩, ⟨some 5, .assign (.tmp 61), none, 15⟩] false) (.ret)) (.skip))) (.seq (.seq (.region [⟨some 62, .move (.tmp 1), none, 0⟩, ⟨some 63, .move (.tmp 6), none, 0⟩, ⟨some 64, .bin (.sub) (.tmp 62) (.tmp 63), none, 3⟩, ⟨some 65, .move (.tmp 7), none, 0⟩, ⟨some 66, .bin (.mul) (.tmp 65) (.val (.int .u64 128)), none, 8⟩, ⟨some 67, .bin (.lss) (.tmp 64) (.tmp 66), none, 31⟩] false) (.cond (.tmp 67) (.seq (.region [⟨some 4, .assign (.val (.int .u64 0)), none, 0⟩, ⟨some 5, .assign (.val (.int .i64 (-1))), none, 1⟩] false) (.ret)) (.skip))) (.region [⟨some 68, .move (.tmp 7), none, 0⟩, ⟨some 69, .bin (.mul) (.tmp 68) (.val (.int .u64 128)), none, 1⟩, ⟨some 7, .assign (.tmp 69), none, 3⟩] false)))))))) (.region [⟨some 14, .move (.tmp 8), none, 0⟩, ⟨some 15, .bin (.add) (.tmp 14) (.val (.int .i64 1)), none, 1⟩, ⟨some 8, .assign (.tmp 15), none, 3⟩] false)))))) (.seq (.region [⟨some 4, .assign (.val (.int .u64 0)), none, 0⟩, ⟨some 5, .assign (.val (.int .i64 0)), none, 1⟩] false) (.ret))))
abbrev v42 : VFunc := { nparams := 2, ntmps := 70, nsites := 0, results := [.tmp 4, .tmp 5], body := b42 }
/-- The number at the beginning of bytes, by definition. -/
def dec (lim : Nat) : Nat → Nat → List Nat → Int × Int
  | _, _, [] => (0, 0)
  | i, n, x :: r =>
    if (i = 9 ∧ 1 < x) ∨ (0 < i ∧ x = 0) ∨ lim < n + x % 128 * 2 ^ (7 * i) then (0, -1)
    else if x < 128 then (((n + x % 128 * 2 ^ (7 * i) : Nat) : Int), ((i + 1 : Nat) : Int))
    else if lim - (n + x % 128 * 2 ^ (7 * i)) < 2 ^ (7 * (i + 1)) then (0, -1)
    else dec lim (i + 1) (n + x % 128 * 2 ^ (7 * i)) r
theorem dec_cons (lim i n x : Nat) (r : List Nat) : dec lim i n (x :: r) = if (i = 9 ∧ 1 < x) ∨ (0 < i ∧ x = 0) ∨ lim < n + x % 128 * 2 ^ (7 * i) then (0, -1)
    else if x < 128 then (((n + x % 128 * 2 ^ (7 * i) : Nat) : Int), ((i + 1 : Nat) : Int))
    else if lim - (n + x % 128 * 2 ^ (7 * i)) < 2 ^ (7 * (i + 1)) then (0, -1)
    else dec lim (i + 1) (n + x % 128 * 2 ^ (7 * i)) r := by rw [dec]
theorem and127 (x : Nat) (hx : x < 256) : IntKind.u8.wrap (BitVec.ofInt IntKind.u8.bits (x : Int) &&& BitVec.ofInt IntKind.u8.bits 127).toNat = ((x % 128 : Nat) : Int) := by
  have e : (BitVec.ofInt 8 (x : Int) &&& BitVec.ofInt 8 127).toNat = x % 128 := by
    rw [show (127 : Int) = ((127 : Nat) : Int) from rfl, andN x 127 hx (by decide)]
    exact Nat.and_two_pow_sub_one_eq_mod x 7
  have : IntKind.u8.wrap (((BitVec.ofInt 8 (x : Int) &&& BitVec.ofInt 8 127).toNat : Nat) : Int) = ((x % 128 : Nat) : Int) := by
    rw [e, wrap8]; omega
  exact this
theorem pow_cast (i : Nat) (hi : 7 * i ≤ 64) : (2 : Int) ^ min (7 * i) IntKind.u64.bits = ((2 ^ (7 * i) : Nat) : Int) := by
  have e : min (7 * i) IntKind.u64.bits = 7 * i := Nat.min_eq_left hi
  rw [e, Int.natCast_pow]
  rfl
theorem pow_lt64 {i : Nat} (hi : 7 * i ≤ 63) : 2 ^ (7 * i) < 2 ^ 64 := Nat.pow_lt_pow_right (by decide) (by omega)
theorem or64 (n p i : Nat) (hn : n < 2 ^ (7 * i)) (hs : n + p * 2 ^ (7 * i) < 2 ^ 64) : IntKind.u64.wrap (BitVec.ofInt IntKind.u64.bits (n : Int) ||| BitVec.ofInt IntKind.u64.bits ((p * 2 ^ (7 * i) : Nat) : Int)).toNat = ((n + p * 2 ^ (7 * i) : Nat) : Int) := by
  have e : (BitVec.ofInt 64 (n : Int) ||| BitVec.ofInt 64 ((p * 2 ^ (7 * i) : Nat) : Int)).toNat = n + p * 2 ^ (7 * i) := by
    rw [orN _ _ (by omega) (by omega), Nat.or_comm, Nat.mul_comm p, ← Nat.two_pow_add_eq_or_of_lt hn, Nat.add_comm]
  have : IntKind.u64.wrap (((BitVec.ofInt 64 (n : Int) ||| BitVec.ofInt 64 ((p * 2 ^ (7 * i) : Nat) : Int)).toNat : Nat) : Int) = ((n + p * 2 ^ (7 * i) : Nat) : Int) := by
    rw [e, wrap64 _ hs]
  exact this
section
variable (G : VProg)
theorem number (hG : G 52 = some (.code v52)) (l : List Nat) (lim : Nat) (hl : l.length < 2 ^ 40) (hb : ∀ x ∈ l, x < 256) (hlim : lim < 2 ^ 64) :
    Vq.lim G 52 [.isl 0 1 (byN l), .int .u64 lim] [] = some (.tup [.int .u64 (dec lim 0 0 l).1, .int .i64 (dec lim 0 0 l).2], []) := by
  refine lim_fun hG (h := runV trivial trivial ?_)
  refine WL_loop (fun a : Nat × Nat => ⟨(.isl 0 1 (byN l) :: .int .u64 lim :: .gone 0 :: .gone 0 :: .gone 0 :: .gone 0 :: .int .u64 (a.2 : Nat) :: .gone 0 :: .gone 0 :: .gone 0 :: .isl 0 1 (byN l) :: .int .i64 l.length :: .int .i64 (a.1 : Nat) :: .gone 0 :: .gone 0 :: .gone 0 :: .gone 0 :: .gone 0 :: .gone 0 :: .gone 0 :: .gone 0 :: .gone 0 :: .gone 0 :: .gone 0 :: .gone 0 :: .gone 0 :: .gone 0 :: .gone 0 :: .gone 0 :: .gone 0 :: .gone 0 :: .gone 0 :: .gone 0 :: .gone 0 :: .gone 0 :: .gone 0 :: .gone 0 :: .gone 0 :: .gone 0 :: .gone 0 :: .gone 0 :: .gone 0 :: .gone 0 :: .gone 0 :: .gone 0 :: .gone 0 :: .gone 0 :: .gone 0 :: .gone 0 :: .gone 0 :: .gone 0 :: .gone 0 :: .gone 0 :: .gone 0 :: .gone 0 :: .gone 0 :: .gone 0 :: .gone 0 :: .gone 0 :: .gone 0 :: .gone 0 :: .gone 0 :: .gone 0 :: .gone 0 :: .gone 0 :: []), []⟩)
    (fun a => a.1 ≤ l.length ∧ a.1 ≤ 9 ∧ a.2 < 2 ^ (7 * a.1) ∧ dec lim a.1 a.2 (l.drop a.1) = dec lim 0 0 l) (fun a => l.length - a.1) ?_ (0, 0) _ ⟨by omega, by omega, by simp, rfl⟩ (by kernel_rfl)
  rintro ⟨i, n⟩ ⟨hi, hi9, hn, hh⟩
  simp only at hi hi9 hn hh ⊢
  by_cases h : i < l.length
  · have hlt : decide ((i : Int) < (l.length : Int)) = true := by simp; omega
    have hadd := inc64 i (by omega)
    have hg := byN_get l i h
    have hx := hb _ (List.getElem_mem h)
    have hp := and127 l[i] hx
    have hp2 : IntKind.u64.wrap ((l[i] % 128 : Nat) : Int) = ((l[i] % 128 : Nat) : Int) := wrap64 _ (by omega)
    have h7 : IntKind.i64.wrap (7 * (i : Int)) = ((7 * i : Nat) : Int) := by rw [wrapi64 _ (by omega) (by omega)]; omega
    rw [List.drop_eq_getElem_cons h, dec_cons] at hh
    obtain ⟨x, hxd⟩ : ∃ x, x = l[i] := ⟨_, rfl⟩
    rw [← hxd] at hg hx hp hp2 hh
    clear hxd
    have hend : ∀ {r1 r2 : Int} {σ : St} {J : Nat × Nat → Prop} {S : Nat × Nat → St}, (r1, r2) = dec lim 0 0 l → finish v52 0 σ = some (.tup [.int .u64 r1, .int .i64 r2], []) → Qrnd (some [0, 1, 6, 10, 11, 12]) 0 S J (Qblk 0 0 (some []) (Qseq (Vq.lim G) (itersOf G) (limX G) 0 ((VCode.region [{ dst := some 4, op := VOp.assign (Opd.val (V.int IntKind.u64 0)), guard := none, before := 0 }, { dst := some 5, op := VOp.assign (Opd.val (V.int IntKind.i64 0)), guard := none, before := 1 }] false).seq VCode.ret) (Qend v52 0 (some (.tup [.int .u64 (dec lim 0 0 l).1, .int .i64 (dec lim 0 0 l).2], []))))) .ret σ := by
      intro r1 r2 σ J S he hf
      rw [← he]
      exact Qr_r (Qb_r (Qs_r (Qe_r hf)))
    obtain ⟨b1, c1⟩ : ∃ b, ((i : Int) == 9) = b := ⟨_, rfl⟩
    obtain ⟨b2, c2⟩ : ∃ b, decide (1 < (x : Int)) = b := ⟨_, rfl⟩
    obtain ⟨b3, c3⟩ : ∃ b, decide (0 < (i : Int)) = b := ⟨_, rfl⟩
    obtain ⟨b4, c4⟩ : ∃ b, ((x : Int) == 0) = b := ⟨_, rfl⟩
    have F := And.intro hlt (And.intro hadd (And.intro hg (And.intro hp (And.intro hp2 (And.intro h7 (And.intro c1 (And.intro c2 (And.intro c3 c4))))))))
    have c1' : b1 = true ↔ i = 9 := by rw [← c1]; simp; omega
    have c2' : b2 = true ↔ 1 < x := by rw [← c2]; simp; omega
    have c3' : b3 = true ↔ 0 < i := by rw [← c3]; simp
    have c4' : b4 = true ↔ x = 0 := by rw [← c4]; simp
    by_cases h1 : (i = 9 ∧ 1 < x) ∨ (0 < i ∧ x = 0)
    · rw [if_pos (by rcases h1 with h1 | h1; · exact .inl h1
                     · exact .inr (.inl h1))] at hh
      cases b1 <;> cases b2 <;> cases b3 <;> cases b4
      all_goals first
        | (exfalso; simp only [Bool.false_eq_true, false_iff, true_iff] at c1' c2' c3' c4'; omega)
        | (refine runV F trivial ?_; exact hend hh (by kernel_rfl))
    have hpos : 0 < 2 ^ (7 * i) := Nat.two_pow_pos _
    have hshr : (lim : Int).fdiv (2 ^ min (7 * i) IntKind.u64.bits) = ((lim / 2 ^ (7 * i) : Nat) : Int) := by
      rw [pow_cast i (by omega), Int.fdiv_eq_ediv_of_nonneg _ (by omega)]
      rfl
    by_cases h5 : lim / 2 ^ (7 * i) < x % 128
    · have : lim < x % 128 * 2 ^ (7 * i) := (Nat.div_lt_iff_lt_mul hpos).1 h5
      rw [if_pos (.inr (.inr (by omega)))] at hh
      have c5 : decide (((lim / 2 ^ (7 * i) : Nat) : Int) < ((x % 128 : Nat) : Int)) = true := decide_eq_true (Int.ofNat_lt.2 h5)
      replace F := And.intro hshr (And.intro c5 F)
      cases b1 <;> cases b2 <;> cases b3 <;> cases b4
      all_goals first
        | (exfalso; simp only [Bool.false_eq_true, false_iff, true_iff] at c1' c2' c3' c4'; omega)
        | (refine runV F trivial ?_; exact hend hh (by kernel_rfl))
    have h5' : x % 128 * 2 ^ (7 * i) ≤ lim := by
      rcases Nat.lt_or_ge lim (x % 128 * 2 ^ (7 * i)) with h | h
      · exact absurd ((Nat.div_lt_iff_lt_mul hpos).2 h) h5
      · exact h
    have hshl : IntKind.u64.wrap (((x % 128 : Nat) : Int) * 2 ^ min (7 * i) IntKind.u64.bits) = ((x % 128 * 2 ^ (7 * i) : Nat) : Int) := by
      rw [pow_cast i (by omega), ← Int.natCast_mul]
      exact wrap64 _ (by omega)
    have hbound : n + x % 128 * 2 ^ (7 * i) < 2 ^ (7 * (i + 1)) := by
      have e : 2 ^ (7 * (i + 1)) = 128 * 2 ^ (7 * i) := by rw [show 7 * (i + 1) = 7 * i + 7 by omega, Nat.pow_add, Nat.mul_comm]
      have h2 : (x % 128 + 1) * 2 ^ (7 * i) ≤ 128 * 2 ^ (7 * i) := Nat.mul_le_mul_right _ (by omega)
      rw [Nat.add_mul, Nat.one_mul] at h2
      omega
    have hb64 : n + x % 128 * 2 ^ (7 * i) < 2 ^ 64 := by
      by_cases h9 : i = 9
      · subst h9
        have hle : x % 128 ≤ 1 := by omega
        have h3 : x % 128 * 2 ^ (7 * 9) ≤ 1 * 2 ^ (7 * 9) := Nat.mul_le_mul_right _ hle
        have h4 : (2 : Nat) ^ (7 * 9) = 9223372036854775808 := by decide
        have h5 : (2 : Nat) ^ 64 = 18446744073709551616 := by decide
        omega
      · have := pow_lt64 (i := i + 1) (by omega)
        omega
    have hor := or64 n (x % 128) i hn hb64
    have c5 : decide (((lim / 2 ^ (7 * i) : Nat) : Int) < ((x % 128 : Nat) : Int)) = false := decide_eq_false (by omega)
    replace F := And.intro hshr (And.intro c5 (And.intro hshl (And.intro hor F)))
    by_cases h6 : lim < n + x % 128 * 2 ^ (7 * i)
    · rw [if_pos (.inr (.inr h6))] at hh
      have c6 : decide ((lim : Int) < ((n + x % 128 * 2 ^ (7 * i) : Nat) : Int)) = true := decide_eq_true (by omega)
      replace F := And.intro c6 F
      cases b1 <;> cases b2 <;> cases b3 <;> cases b4
      all_goals first
        | (exfalso; simp only [Bool.false_eq_true, false_iff, true_iff] at c1' c2' c3' c4'; omega)
        | (refine runV F trivial ?_; exact hend hh (by kernel_rfl))
    rw [if_neg (by
      rintro (h | h | h)
      · exact h1 (.inl h)
      · exact h1 (.inr h)
      · exact h6 h)] at hh
    have c6 : decide ((lim : Int) < ((n + x % 128 * 2 ^ (7 * i) : Nat) : Int)) = false := decide_eq_false (by omega)
    by_cases h7 : x < 128
    · rw [if_pos h7] at hh
      have c7 : decide ((x : Int) < 128) = true := decide_eq_true (by omega)
      replace F := And.intro c7 (And.intro c6 F)
      cases b1 <;> cases b2 <;> cases b3 <;> cases b4
      all_goals first
        | (exfalso; simp only [Bool.false_eq_true, false_iff, true_iff] at c1' c2' c3' c4'; omega)
        | (refine runV F trivial ?_; exact hend hh (by kernel_rfl))
    rw [if_neg h7] at hh
    have h8i : i ≤ 8 := by omega
    have c7 : decide ((x : Int) < 128) = false := decide_eq_false (by omega)
    have hsub : IntKind.u64.wrap ((lim : Int) - ((n + x % 128 * 2 ^ (7 * i) : Nat) : Int)) = ((lim - (n + x % 128 * 2 ^ (7 * i)) : Nat) : Int) := by
      have e : (lim : Int) - ((n + x % 128 * 2 ^ (7 * i) : Nat) : Int) = ((lim - (n + x % 128 * 2 ^ (7 * i)) : Nat) : Int) := by omega
      rw [e, wrap64 _ (by omega)]
    have h71 : IntKind.i64.wrap (7 * ((i + 1 : Nat) : Int)) = ((7 * (i + 1) : Nat) : Int) := by rw [wrapi64 _ (by omega) (by omega)]; omega
    have hs1 : IntKind.u64.wrap (1 * 2 ^ min (7 * (i + 1)) IntKind.u64.bits) = ((2 ^ (7 * (i + 1)) : Nat) : Int) := by
      rw [pow_cast (i + 1) (by omega), Int.one_mul]
      exact wrap64 _ (pow_lt64 (by omega))
    replace F := And.intro h71 (And.intro hsub (And.intro hs1 (And.intro c7 (And.intro c6 F))))
    by_cases h8 : lim - (n + x % 128 * 2 ^ (7 * i)) < 2 ^ (7 * (i + 1))
    · rw [if_pos h8] at hh
      have c8 : decide (((lim - (n + x % 128 * 2 ^ (7 * i)) : Nat) : Int) < ((2 ^ (7 * (i + 1)) : Nat) : Int)) = true := decide_eq_true (by omega)
      replace F := And.intro c8 F
      cases b1 <;> cases b2 <;> cases b3 <;> cases b4
      all_goals first
        | (exfalso; simp only [Bool.false_eq_true, false_iff, true_iff] at c1' c2' c3' c4'; omega)
        | (refine runV F trivial ?_; exact hend hh (by kernel_rfl))
    rw [if_neg h8] at hh
    have c8 : decide (((lim - (n + x % 128 * 2 ^ (7 * i)) : Nat) : Int) < ((2 ^ (7 * (i + 1)) : Nat) : Int)) = false := decide_eq_false (by omega)
    replace F := And.intro c8 F
    obtain ⟨v, hv⟩ : ∃ v, v = n + x % 128 * 2 ^ (7 * i) := ⟨_, rfl⟩
    cases b1 <;> cases b2 <;> cases b3 <;> cases b4
    all_goals first
      | (exfalso; simp only [Bool.false_eq_true, false_iff, true_iff] at c1' c2' c3' c4'; omega)
      | (refine runV F trivial ?_; exact Qr_n (i + 1, n + x % 128 * 2 ^ (7 * i)) (by kernel_rfl) ⟨⟨by simp only; omega, by simp only; omega, hbound, hh⟩, by simp only; omega⟩)
  · obtain rfl : i = l.length := by omega
    have hlt : decide ((l.length : Int) < (l.length : Int)) = false := by simp
    rw [List.drop_length] at hh
    rw [← hh]
    refine runV hlt trivial ?_
    refine Qr_x ?_
    refine Qb_x (σ1 := ⟨(.gone 0 :: .gone 0 :: .gone 0 :: .gone 0 :: .gone 0 :: .gone 0 :: .gone 0 :: .gone 0 :: .gone 0 :: .gone 0 :: .gone 0 :: .gone 0 :: .gone 0 :: .gone 0 :: .gone 0 :: .gone 0 :: .gone 0 :: .gone 0 :: .gone 0 :: .gone 0 :: .gone 0 :: .gone 0 :: .gone 0 :: .gone 0 :: .gone 0 :: .gone 0 :: .gone 0 :: .gone 0 :: .gone 0 :: .gone 0 :: .gone 0 :: .gone 0 :: .gone 0 :: .gone 0 :: .gone 0 :: .gone 0 :: .gone 0 :: .gone 0 :: .gone 0 :: .gone 0 :: .gone 0 :: .gone 0 :: .gone 0 :: .gone 0 :: .gone 0 :: .gone 0 :: .gone 0 :: .gone 0 :: .gone 0 :: .gone 0 :: .gone 0 :: .gone 0 :: .gone 0 :: .gone 0 :: .gone 0 :: .gone 0 :: .gone 0 :: .gone 0 :: .gone 0 :: .gone 0 :: .gone 0 :: .gone 0 :: .gone 0 :: .gone 0 :: .gone 0 :: []), []⟩) (by kernel_rfl) ?_
    exact runV trivial trivial trivial
end
end P1
end Go.Vq

namespace Go.Vq
namespace P1
open Go
set_option maxRecDepth 1000000
set_option maxHeartbeats 8000000
abbrev b35 : VCode := .seq (.region [⟨some 4, .assign (.val (.nilS 1)), none, 0⟩] false) (.seq (.region [⟨some 8, .move (.tmp 0), none, 0⟩, ⟨some 9, .call true 53 0 [(.tmp 8)], none, 1⟩, ⟨some 5, .assign (.tmp 9), none, 3⟩] false) (.seq (.seq (.region [⟨some 10, .move (.tmp 1), none, 0⟩, ⟨some 11, .len (.slc 1) (.tmp 10), none, 1⟩, ⟨some 12, .move (.val (.int .i64 0)), none, 0⟩] false) (.block 0 (some [5]) (.loop (some [1, 5, 10, 11, 12]) (.seq (.region [⟨some 13, .bin (.lss) (.tmp 12) (.tmp 11), none, 0⟩] false) (.seq (.cond (.tmp 13) (.skip) (.exit 0)) (.seq (.block 1 (some [1, 5, 10, 11, 12]) (.seq (.region [⟨some 14, .indexAddr none 1 (.tmp 10) (.tmp 12), none, 0⟩, ⟨some 15, .load false 1 (.tmp 14), none, 1⟩, ⟨some 7, .assign (.tmp 15), none, 3⟩] false) (.seq (.block 2 (some [1, 5, 7, 10, 11, 12, 14, 15]) (.loop (some [1, 5, 7, 10, 11, 12, 14, 15]) (.seq (.seq (.region [⟨some 16, .move (.tmp 7), none, 0⟩, ⟨some 17, .bin (.geq) (.tmp 16) (.val (.int .u64 128)), none, 1⟩] false) (.cond (.tmp 17) (.skip) (.exit 2))) (.seq (.block 3 none (.region [⟨some 20, .move (.tmp 5), none, 0⟩, ⟨some 21, .move (.tmp 7), none, 0⟩, ⟨some 22, .conv (.int (.u8)) (.tmp 21), none, 2⟩, ⟨some 23, .bin (.or) (.tmp 22) (.val (.int .u8 128)), none, 6⟩, ⟨some 24, .buildSlice 1 [(.int .u8 0)] [(0, (.tmp 23))], none, 14⟩, ⟨some 25, .append 1 1 (.tmp 20) (.tmp 24), none, 31⟩, ⟨some 5, .assign (.tmp 25), none, 63⟩] false)) (.region [⟨some 18, .move (.tmp 7), none, 0⟩, ⟨some 19, .bin (.shr) (.tmp 18) (.val (.int .u64 7)), none, 1⟩, ⟨some 7, .assign (.tmp 19), none, 3⟩] false))))) (.region [⟨some 26, .move (.tmp 5), none, 0⟩, ⟨some 27, .move (.tmp 7), none, 0⟩, ⟨some 28, .conv (.int (.u8)) (.tmp 27), none, 2⟩, ⟨some 29, .buildSlice 1 [(.int .u8 0)] [(0, (.tmp 28))], none, 6⟩, ⟨some 30, .append 1 1 (.tmp 26) (.tmp 29), none, 15⟩, ⟨some 5, .assign (.tmp 30), none, 31⟩] false)))) (.region [⟨some 31, .bin (.add) (.tmp 12) (.val (.int .i64 1)), none, 0⟩, ⟨some 12, .move (.tmp 31), none, 1⟩] false))))))) (.seq (.region [⟨some 32, .move (.tmp 5), none, 0⟩, ⟨some 4, .assign (.tmp 32), none, 1⟩] false) (.ret))))
abbrev v35 : VFunc := { nparams := 2, ntmps := 33, nsites := 0, results := [.tmp 4], body := b35 }
abbrev b32 : VCode := .seq (.region [⟨some 1, .box 0 2 (.tmp 0), none, 0⟩, ⟨some 2, .assign (.val (.nilS 1)), none, 0⟩, ⟨some 3, .assign (.val (.int .i64 0)), none, 2⟩] false) (.seq (.seq (.region [⟨some 6, .fieldAddr 1 (.tmp 1), none, 0⟩, ⟨some 7, .load false 1 (.tmp 6), none, 1⟩, ⟨some 8, .len (.slc 1) (.tmp 7), none, 3⟩, ⟨some 9, .bin (.gtr) (.tmp 8) (.val (.int .i64 65536)), none, 7⟩] false) (.cond (.tmp 9) (.seq (.region [⟨some 2, .assign (.val (.nilS 1)), none, 0⟩, ⟨some 3, .assign (.val (.int .i64 63)), none, 1⟩] false) (.ret)) (.skip))) (.seq (.region [⟨some 10, .fieldAddr 0 (.tmp 1), none, 0⟩, ⟨some 11, .load false 1 (.tmp 10), none, 1⟩, ⟨some 12, .buildSlice 1 [(.int .u8 0), (.int .u8 0), (.int .u8 0)] [(0, (.val (.int .u8 167))), (1, (.val (.int .u8 1))), (2, (.tmp 11))], none, 3⟩, ⟨some 13, .fieldAddr 1 (.tmp 1), none, 0⟩, ⟨some 14, .load false 1 (.tmp 13), none, 8⟩, ⟨some 15, .len (.slc 1) (.tmp 14), none, 24⟩, ⟨some 16, .conv (.int (.u64)) (.tmp 15), none, 56⟩, ⟨some 17, .buildSlice 1 [(.int .u64 0)] [(0, (.tmp 16))], none, 120⟩, ⟨some 18, .call true 35 1 [(.tmp 12), (.tmp 17)], none, 255⟩, ⟨some 19, .fieldAddr 1 (.tmp 1), none, 0⟩, ⟨some 20, .load false 1 (.tmp 19), none, 512⟩, ⟨some 21, .append 1 1 (.tmp 18) (.tmp 20), none, 2047⟩, ⟨some 4, .assign (.tmp 21), none, 4095⟩] true) (.seq (.region [⟨some 22, .move (.tmp 4), none, 0⟩, ⟨some 23, .buildSlice 1 [(.isl 0 1 [])] [(0, (.tmp 22))], none, 1⟩, ⟨some 24, .call true 49 1 [(.tmp 23)], none, 3⟩, ⟨some 5, .assign (.tmp 24), none, 7⟩] false) (.seq (.region [⟨some 25, .move (.tmp 4), none, 0⟩, ⟨some 26, .move (.tmp 5), none, 0⟩, ⟨some 27, .conv (.int (.u8)) (.tmp 26), none, 2⟩, ⟨some 28, .move (.tmp 5), none, 0⟩, ⟨some 29, .bin (.shr) (.tmp 28) (.val (.int .u64 8)), none, 8⟩, ⟨some 30, .conv (.int (.u8)) (.tmp 29), none, 24⟩, ⟨some 31, .move (.tmp 5), none, 0⟩, ⟨some 32, .bin (.shr) (.tmp 31) (.val (.int .u64 16)), none, 64⟩, ⟨some 33, .conv (.int (.u8)) (.tmp 32), none, 192⟩, ⟨some 34, .move (.tmp 5), none, 0⟩, ⟨some 35, .bin (.shr) (.tmp 34) (.val (.int .u64 24)), none, 512⟩, ⟨some 36, .conv (.int (.u8)) (.tmp 35), none, 1536⟩, ⟨some 37, .buildSlice 1 [(.int .u8 0), (.int .u8 0), (.int .u8 0), (.int .u8 0)] [(0, (.tmp 27)), (1, (.tmp 30)), (2, (.tmp 33)), (3, (.tmp 36))], none, 4094⟩, ⟨some 38, .append 1 1 (.tmp 25) (.tmp 37), none, 8191⟩, ⟨some 2, .assign (.tmp 38), none, 16383⟩, ⟨some 3, .assign (.val (.int .i64 0)), none, 32767⟩] false) (.ret)))))
abbrev v32 : VFunc := { nparams := 1, ntmps := 39, nsites := 1, results := [.tmp 2, .tmp 3], body := b32 }
/-- A number's bytes. -/
def digN (n : Nat) : List Nat := if n < 128 then [n] else (n % 128 + 128) :: digN (n / 128)
decreasing_by omega
theorem digN_lo {n : Nat} (h : n < 128) : digN n = [n] := by rw [digN, if_pos h]
theorem digN_hi {n : Nat} (h : ¬ n < 128) : digN n = (n % 128 + 128) :: digN (n / 128) := by rw [digN, if_neg h]
theorem digN_lt (n : Nat) : ∀ x ∈ digN n, x < 256 := by
  induction n using Nat.strongRecOn with
  | ind n ih =>
    by_cases h : n < 128
    · rw [digN_lo h]; intro x hx; simp at hx; omega
    · rw [digN_hi h]
      intro x hx
      rcases List.mem_cons.1 hx with rfl | hx
      · omega
      · exact ih (n / 128) (by omega) x hx
theorem digN_len (k n : Nat) (h : n < 128 ^ (k + 1)) : (digN n).length ≤ k + 1 := by
  induction k generalizing n with
  | zero => rw [digN_lo (by omega)]; simp
  | succ k ih =>
    by_cases h1 : n < 128
    · rw [digN_lo h1]; simp
    · rw [digN_hi h1]
      have := ih (n / 128) (by rw [Nat.pow_succ] at h; omega)
      simp only [List.length_cons]; omega
theorem or128 (n : Nat) : IntKind.u8.wrap (BitVec.ofInt IntKind.u8.bits (IntKind.u8.wrap (n : Int)) ||| BitVec.ofInt IntKind.u8.bits 128).toNat = ((n % 128 + 128 : Nat) : Int) := by
  have h1 : IntKind.u8.wrap (n : Int) = ((n % 256 : Nat) : Int) := by simp only [IntKind.wrap, IntKind.bits, IntKind.signed]; simp
  have e : (BitVec.ofInt 8 ((n % 256 : Nat) : Int) ||| BitVec.ofInt 8 128).toNat = n % 128 + 128 := by
    rw [show (128 : Int) = ((128 : Nat) : Int) from rfl, orN _ _ (by omega) (by decide)]
    rcases Nat.lt_or_ge (n % 256) 128 with h | h
    · have e1 : n % 256 = n % 128 := by omega
      rw [e1, Nat.or_comm]
      have := Nat.two_pow_add_eq_or_of_lt (b := n % 128) (i := 7) (by omega) 1
      simp at this
      rw [← this]; omega
    · have e1 : n % 256 = 128 + n % 128 := by omega
      rw [e1]
      have := Nat.two_pow_add_eq_or_of_lt (b := n % 128) (i := 7) (by omega) 1
      simp at this
      rw [this, Nat.or_comm 128, Nat.or_assoc, Nat.or_self, Nat.or_comm, ← this]; omega
  rw [h1]
  show IntKind.u8.wrap (((BitVec.ofInt 8 ((n % 256 : Nat) : Int) ||| BitVec.ofInt 8 128).toNat : Nat) : Int) = _
  rw [e, wrap8 _ (by omega)]
theorem byN_snoc (l : List Nat) (x : Nat) : byN l ++ [V.int .u8 (x : Int)] = byN (l ++ [x]) := by rw [byN_app]; rfl
abbrev u64s (ns : List Nat) : List V := ns.map fun (n : Nat) => V.int .u64 (n : Int)
section
variable (G : VProg)
theorem Number (hG : G 35 = some (.code v35)) (hc : ∀ es : List V, es.length ≤ 140737488355328 → lim G 53 [.isl 0 1 es] [] = some (.xsl 0 1 es, []))
    (b : List Nat) (ns : List Nat) (hn : ∀ n ∈ ns, n < 2 ^ 64) (hl : ns.length < 2 ^ 40) (hb : (b ++ ns.flatMap digN).length < 2 ^ 40) : lim G 35 [.isl 0 1 (byN b), .isl 0 1 (u64s ns)] [] = some (.xsl 0 1 (byN (b ++ ns.flatMap digN)), []) := by
  have h1 := hc (byN b) (by rw [byN_len]; simp at hb; omega)
  obtain ⟨tot, htot⟩ : ∃ t, t = b ++ ns.flatMap digN := ⟨_, rfl⟩
  rw [← htot] at hb ⊢
  have h2 : V.apart (.xsl 0 1 (byN b)) = true := by simp [V.apart, V.leaves, byN, V.noslice]
  refine lim_fun hG (h := runV h2 h2 ?_)
  refine WL_loop (fun a : Nat × List Nat => ⟨(.gone 0 :: .isl 0 1 (u64s ns) :: .gone 0 :: .gone 0 :: .gone 0 :: .xsl 0 1 (byN a.2) :: .gone 0 :: .gone 0 :: .gone 0 :: .gone 0 :: .isl 0 1 (u64s ns) :: .int .i64 ns.length :: .int .i64 (a.1 : Nat) :: .gone 0 :: .gone 0 :: .gone 0 :: .gone 0 :: .gone 0 :: .gone 0 :: .gone 0 :: .gone 0 :: .gone 0 :: .gone 0 :: .gone 0 :: .gone 0 :: .gone 0 :: .gone 0 :: .gone 0 :: .gone 0 :: .gone 0 :: .gone 0 :: .gone 0 :: .gone 0 :: []), []⟩)
    (fun a => a.1 ≤ ns.length ∧ a.2 ++ (ns.drop a.1).flatMap digN = tot) (fun a => ns.length - a.1) ?_ (0, b) _ ⟨by omega, htot.symm⟩ (by kernel_rfl)
  rintro ⟨i, out⟩ ⟨hi, hh⟩
  simp only at hi hh ⊢
  by_cases h : i < ns.length
  · have hlt : decide ((i : Int) < (ns.length : Int)) = true := by simp; omega
    have hadd := inc64 i (by omega)
    obtain ⟨n, hnd⟩ : ∃ n, n = ns[i] := ⟨_, rfl⟩
    have hn64 : n < 2 ^ 64 := by rw [hnd]; exact hn _ (List.getElem_mem h)
    have hg : (u64s ns)[i]? = some (.int .u64 (n : Int)) := by rw [hnd]; simp [h]
    rw [List.drop_eq_getElem_cons h, List.flatMap_cons, ← hnd, ← List.append_assoc] at hh
    have hlen : (out ++ digN n).length < 2 ^ 40 := by rw [← hh] at hb; simp only [List.length_append] at hb ⊢; omega
    refine runV (And.intro hlt (And.intro hadd hg)) trivial ?_
    refine WL_loop (fun a : Nat × List Nat => ⟨(.gone 0 :: .isl 0 1 (u64s ns) :: .gone 0 :: .gone 0 :: .gone 0 :: .xsl 0 1 (byN a.2) :: .gone 0 :: .int .u64 (a.1 : Nat) :: .gone 0 :: .gone 0 :: .isl 0 1 (u64s ns) :: .int .i64 ns.length :: .int .i64 (i : Nat) :: .gone 0 :: .iptr [.int .u64 (n : Int)] :: .int .u64 (n : Int) :: .gone 0 :: .gone 0 :: .gone 0 :: .gone 0 :: .gone 0 :: .gone 0 :: .gone 0 :: .gone 0 :: .gone 0 :: .gone 0 :: .gone 0 :: .gone 0 :: .gone 0 :: .gone 0 :: .gone 0 :: .gone 0 :: .gone 0 :: []), []⟩)
      (fun a => a.1 < 2 ^ 64 ∧ a.2 ++ digN a.1 = out ++ digN n) (fun a => a.1) ?_ (n, out) _ ⟨hn64, rfl⟩ (by kernel_rfl)
    rintro ⟨m, o⟩ ⟨hm, ho⟩
    simp only at hm ho ⊢
    have hol : o.length + (digN m).length < 2 ^ 40 := by rw [← ho] at hlen; simpa using hlen
    by_cases h128 : m < 128
    · rw [digN_lo h128] at ho hol
      have hc1 : decide (128 ≤ (m : Int)) = false := by simp; omega
      have hw : IntKind.u8.wrap (m : Int) = (m : Int) := wrap8 _ (by omega)
      have hob : o.length + 1 ≤ 140737488355328 := by simp at hol; omega
      refine runV hc1 trivial ?_
      refine Qr_x ?_
      refine Qb_x (σ1 := ⟨(.gone 0 :: .isl 0 1 (u64s ns) :: .gone 0 :: .gone 0 :: .gone 0 :: .xsl 0 1 (byN o) :: .gone 0 :: .int .u64 (m : Nat) :: .gone 0 :: .gone 0 :: .isl 0 1 (u64s ns) :: .int .i64 ns.length :: .int .i64 (i : Nat) :: .gone 0 :: .iptr [.int .u64 (n : Int)] :: .int .u64 (n : Int) :: .gone 0 :: .gone 0 :: .gone 0 :: .gone 0 :: .gone 0 :: .gone 0 :: .gone 0 :: .gone 0 :: .gone 0 :: .gone 0 :: .gone 0 :: .gone 0 :: .gone 0 :: .gone 0 :: .gone 0 :: .gone 0 :: .gone 0 :: []), []⟩) (by kernel_rfl) ?_
      have es := byN_snoc o m
      refine runV (And.intro hw es) trivial ?_
      refine Qb_n (σ1 := ⟨(.gone 0 :: .isl 0 1 (u64s ns) :: .gone 0 :: .gone 0 :: .gone 0 :: .xsl 0 1 (byN o ++ byN [m]) :: .gone 0 :: .gone 0 :: .gone 0 :: .gone 0 :: .isl 0 1 (u64s ns) :: .int .i64 ns.length :: .int .i64 (i : Nat) :: .gone 0 :: .gone 0 :: .gone 0 :: .gone 0 :: .gone 0 :: .gone 0 :: .gone 0 :: .gone 0 :: .gone 0 :: .gone 0 :: .gone 0 :: .gone 0 :: .gone 0 :: .gone 0 :: .gone 0 :: .gone 0 :: .gone 0 :: .gone 0 :: .gone 0 :: .gone 0 :: []), []⟩) (by kernel_rfl) ?_
      refine runV hadd trivial ?_
      exact Qr_n (i + 1, o ++ [m]) (by simp only [byN_app]; kernel_rfl) ⟨⟨by simp only; omega, by simp only; rw [ho]; exact hh⟩, by simp only; omega⟩
    · rw [digN_hi h128] at ho hol
      have hc1 : decide (128 ≤ (m : Int)) = true := by simp; omega
      have hw := or128 m
      have hs : (m : Int).fdiv (2 ^ min 7 IntKind.u64.bits) = ((m / 128 : Nat) : Int) := by
        rw [Int.fdiv_eq_ediv_of_nonneg _ (by decide)]; rfl
      have hob : o.length + 1 ≤ 140737488355328 := by simp at hol; omega
      have es := byN_snoc o (m % 128 + 128)
      refine runV (And.intro hc1 (And.intro hw (And.intro hs es))) trivial ?_
      exact Qr_n (m / 128, o ++ [m % 128 + 128]) (by simp only [byN_app]; kernel_rfl) ⟨⟨by simp only; omega, by simp only; rw [List.append_assoc]; exact ho⟩, by simp only; omega⟩
  · obtain rfl : i = ns.length := by omega
    have hlt : decide ((ns.length : Int) < (ns.length : Int)) = false := by simp
    rw [List.drop_length, List.flatMap_nil, List.append_nil] at hh
    subst hh
    refine runV hlt trivial ?_
    refine Qr_x ?_
    refine Qb_x (σ1 := ⟨(.gone 0 :: .gone 0 :: .gone 0 :: .gone 0 :: .gone 0 :: .xsl 0 1 (byN out) :: .gone 0 :: .gone 0 :: .gone 0 :: .gone 0 :: .gone 0 :: .gone 0 :: .gone 0 :: .gone 0 :: .gone 0 :: .gone 0 :: .gone 0 :: .gone 0 :: .gone 0 :: .gone 0 :: .gone 0 :: .gone 0 :: .gone 0 :: .gone 0 :: .gone 0 :: .gone 0 :: .gone 0 :: .gone 0 :: .gone 0 :: .gone 0 :: .gone 0 :: .gone 0 :: .gone 0 :: []), []⟩) (by kernel_rfl) ?_
    refine runV trivial trivial ?_
    exact end_own rfl rfl rfl rfl (byN_len out).symm
end
end P1
end Go.Vq

namespace Go.Vq
namespace P1
open Go
set_option maxRecDepth 1000000
set_option maxHeartbeats 8000000
def fourN (c : Nat) : List Nat := [c % 256, c / 256 % 256, c / 65536 % 256, c / 16777216 % 256]
def headN (k : Nat) (body : List Nat) : List Nat := [167, 1, k] ++ digN body.length ++ body
/-- A frame's bytes. -/
def frameN (k : Nat) (body : List Nat) : List Nat := headN k body ++ fourN (crc (headN k body))
theorem headN_lt {k : Nat} {body : List Nat} (hk : k < 256) (hb : ∀ x ∈ body, x < 256) : ∀ x ∈ headN k body, x < 256 := by
  intro x hx
  simp only [headN, List.mem_append, List.mem_cons, List.not_mem_nil, or_false] at hx
  rcases hx with ((rfl | rfl | rfl) | hx) | hx
  · omega
  · omega
  · exact hk
  · exact digN_lt _ x hx
  · exact hb x hx
theorem wrap8m (n : Nat) : IntKind.u8.wrap (n : Int) = ((n % 256 : Nat) : Int) := by simp only [IntKind.wrap, IntKind.bits, IntKind.signed]; simp
theorem crc_lt (l : List Nat) : crc l < 2 ^ 32 := by unfold crc; omega
section
variable (G : VProg)
theorem Frame (hG : G 32 = some (.code v32))
    (hN : ∀ (b ns : List Nat), (∀ n ∈ ns, n < 2 ^ 64) → ns.length < 2 ^ 40 → (b ++ ns.flatMap digN).length < 2 ^ 40 → lim G 35 [.isl 0 1 (byN b), .isl 0 1 (u64s ns)] [] = some (.xsl 0 1 (byN (b ++ ns.flatMap digN)), []))
    (hO : ∀ l : List Nat, l.length < 2 ^ 40 → (∀ x ∈ l, x < 256) → lim G 49 [.isl 0 1 [.isl 0 1 (byN l)]] [] = some (.int .u32 (crc l : Nat), []))
    (k : Nat) (hk : k < 256) (body : List Nat) (hb : ∀ x ∈ body, x < 256) (hl : body.length ≤ 65536) : lim G 32 [.agg [.int .u8 k, .isl 0 1 (byN body)]] [] = some (.tup [.fsl 0 1 (byN (frameN k body)), .int .i64 0], []) := by
  have hd := digN_len 4 body.length (by omega)
  have h1 := hN [167, 1, k] [body.length] (by intro n hn; simp at hn; omega) (by simp) (by simp; omega)
  have e0 : [167, 1, k] ++ [body.length].flatMap digN = [167, 1, k] ++ digN body.length := by simp
  rw [e0] at h1
  have h1' : lim G 35 [.isl 0 1 [.int .u8 167, .int .u8 1, .int .u8 (k : Int)], .isl 0 1 [.int .u64 (body.length : Int)]] [] = some (.xsl 0 1 (byN ([167, 1, k] ++ digN body.length)), []) := h1
  clear h1
  have h2 := hO (headN k body) (by simp [headN]; omega) (headN_lt hk hb)
  obtain ⟨tot, htot⟩ : ∃ t, t = headN k body := ⟨_, rfl⟩
  have hl2 : tot.length ≤ 65536 + 8 := by rw [htot]; simp [headN]; omega
  unfold frameN
  rw [← htot] at h2 ⊢
  obtain ⟨c, hc⟩ : ∃ c, c = crc tot := ⟨_, rfl⟩
  have hc32 : c < 2 ^ 32 := by rw [hc]; exact crc_lt _
  rw [← hc] at h2 ⊢
  unfold headN at htot
  obtain ⟨pr, hpr⟩ : ∃ p, p = [167, 1, k] ++ digN body.length := ⟨_, rfl⟩
  rw [← hpr] at h1' htot
  have hl3 : pr.length ≤ 8 := by rw [hpr]; simp; omega
  clear hpr hd e0
  have e1 : byN pr ++ byN body = byN tot := by rw [htot, byN_app]
  have w0 : IntKind.u64.wrap (body.length : Int) = (body.length : Int) := wrap64 _ (by omega)
  have w1 := wrap8m c
  have s1 : (c : Int).fdiv (2 ^ min 8 IntKind.u32.bits) = ((c / 256 : Nat) : Int) := by rw [Int.fdiv_eq_ediv_of_nonneg _ (by decide)]; rfl
  have s2 : (c : Int).fdiv (2 ^ min 16 IntKind.u32.bits) = ((c / 65536 : Nat) : Int) := by rw [Int.fdiv_eq_ediv_of_nonneg _ (by decide)]; rfl
  have s3 : (c : Int).fdiv (2 ^ min 24 IntKind.u32.bits) = ((c / 16777216 : Nat) : Int) := by rw [Int.fdiv_eq_ediv_of_nonneg _ (by decide)]; rfl
  have w2 := wrap8m (c / 256)
  have w3 := wrap8m (c / 65536)
  have w4 := wrap8m (c / 16777216)
  have a1 : V.apart (.xsl 0 1 (byN pr)) = true := by simp [V.apart, V.leaves, byN, V.noslice]
  have hlen : pr.length + body.length = tot.length := by rw [htot]; simp
  have e2 : byN tot ++ [.int .u8 ((c % 256 : Nat) : Int), .int .u8 ((c / 256 % 256 : Nat) : Int), .int .u8 ((c / 65536 % 256 : Nat) : Int), .int .u8 ((c / 16777216 % 256 : Nat) : Int)] = byN (tot ++ fourN c) := by rw [byN_app]; rfl
  obtain ⟨out, hout⟩ : ∃ o, o = tot ++ fourN c := ⟨_, rfl⟩
  rw [← hout] at e2 ⊢
  have hgt : decide (65536 < (body.length : Int)) = false := by simp; omega
  clear htot hc hout
  have et := byN_takeL tot
  refine lim_fun hG (h := runV (And.intro w0 (And.intro hgt (And.intro e1 (And.intro w1 (And.intro s1 (And.intro s2 (And.intro s3 (And.intro w2 (And.intro w3 (And.intro w4 (And.intro e2 (And.intro et hlen)))))))))))) a1 trivial)
end
end P1
end Go.Vq

namespace Go.Vq
namespace P1
open Go
set_option maxRecDepth 1000000
set_option maxHeartbeats 8000000
abbrev b34 : VCode := .seq (.region [⟨some 2, .alloc 0 [(.int .u8 0), (.xsl 0 1 [])], none, 0⟩, ⟨some 3, .assign (.val (.int .i64 0)), none, 0⟩, ⟨some 4, .assign (.val (.int .i64 0)), none, 2⟩] false) (.seq (.seq (.region [⟨some 12, .build [(.int .u8 0), (.int .u8 0)] [(0, 1, (.val (.int .u8 167))), (1, 1, (.val (.int .u8 1)))], none, 0⟩, ⟨some 13, .move (.val (.int .i64 0)), none, 0⟩] false) (.block 0 (some [0, 2]) (.loop (some [0, 2, 12, 13]) (.seq (.region [⟨some 14, .bin (.lss) (.tmp 13) (.val (.int .i64 2)), none, 0⟩] false) (.seq (.cond (.tmp 14) (.skip) (.exit 0)) (.seq (.block 1 none (.seq (.region [⟨some 15, .move (.tmp 13), none, 0⟩, ⟨some 16, .indexArr 2 1 false (.tmp 12) (.tmp 13), none, 0⟩, ⟨some 5, .assign (.tmp 15), none, 3⟩, ⟨some 6, .assign (.tmp 16), none, 7⟩] false) (.seq (.region [⟨some 17, .move (.tmp 5), none, 0⟩, ⟨some 18, .move (.tmp 0), none, 0⟩, ⟨some 19, .len (.slc 1) (.tmp 18), none, 2⟩, ⟨some 20, .bin (.lss) (.tmp 17) (.tmp 19), none, 7⟩, ⟨some 21, .move (.tmp 20), none, 15⟩, ⟨some 22, .move (.tmp 0), some (21, true), 31⟩, ⟨some 23, .move (.tmp 5), some (21, true), 31⟩, ⟨some 24, .indexAddr none 1 (.tmp 22) (.tmp 23), some (21, true), 127⟩, ⟨some 25, .load false 1 (.tmp 24), some (21, true), 255⟩, ⟨some 26, .move (.tmp 6), some (21, true), 31⟩, ⟨some 27, .eq true (.num) (.tmp 25) (.tmp 26), some (21, true), 1023⟩, ⟨some 28, .pick (.tmp 21) (.tmp 27) (.val (.bool false)), none, 2047⟩] false) (.cond (.tmp 28) (.seq (.region [⟨some 29, .build [(.int .u8 0), (.nilS 1)] [], none, 0⟩, ⟨none, .store 2 (.tmp 2) (.tmp 29), none, 1⟩, ⟨some 3, .assign (.val (.int .i64 0)), none, 3⟩, ⟨some 4, .assign (.val (.int .i64 62)), none, 7⟩] false) (.ret)) (.skip))))) (.region [⟨some 30, .bin (.add) (.tmp 13) (.val (.int .i64 1)), none, 0⟩, ⟨some 13, .move (.tmp 30), none, 1⟩] false))))))) (.seq (.seq (.region [⟨some 31, .move (.tmp 0), none, 0⟩, ⟨some 32, .len (.slc 1) (.tmp 31), none, 1⟩, ⟨some 33, .bin (.lss) (.tmp 32) (.val (.int .i64 3)), none, 3⟩] false) (.cond (.tmp 33) (.seq (.region [⟨some 34, .build [(.int .u8 0), (.nilS 1)] [], none, 0⟩, ⟨none, .store 2 (.tmp 2) (.tmp 34), none, 1⟩, ⟨some 3, .assign (.val (.int .i64 0)), none, 3⟩, ⟨some 4, .assign (.val (.int .i64 61)), none, 7⟩] false) (.ret)) (.skip))) (.seq (.region [⟨some 36, .move (.tmp 0), none, 0⟩, ⟨some 37, .slice (.slc 1) (.tmp 36) (some (.val (.int .i64 3))) none none, none, 1⟩, ⟨some 38, .call true 52 1 [(.tmp 37), (.val (.int .u64 65536))], none, 3⟩, ⟨some 35, .move (.tmp 38), none, 7⟩, ⟨some 39, .extract (.tmp 35) 0, none, 15⟩, ⟨some 40, .extract (.tmp 35) 1, none, 15⟩, ⟨some 7, .assign (.tmp 39), none, 31⟩, ⟨some 8, .assign (.tmp 40), none, 127⟩] false) (.seq (.block 2 none (.seq (.region [⟨some 42, .move (.tmp 8), none, 0⟩, ⟨some 43, .bin (.lss) (.tmp 42) (.val (.int .i64 0)), none, 1⟩, ⟨some 41, .assign (.tmp 43), none, 3⟩] false) (.cond (.tmp 41) (.seq (.region [⟨some 44, .build [(.int .u8 0), (.nilS 1)] [], none, 0⟩, ⟨none, .store 2 (.tmp 2) (.tmp 44), none, 1⟩, ⟨some 3, .assign (.val (.int .i64 0)), none, 3⟩, ⟨some 4, .assign (.val (.int .i64 62)), none, 7⟩] false) (.ret)) (.seq (.region [⟨some 46, .move (.tmp 8), none, 0⟩, ⟨some 47, .eq false (.num) (.tmp 46) (.val (.int .i64 0)), none, 1⟩, ⟨some 45, .assign (.tmp 47), none, 3⟩] false) (.cond (.tmp 45) (.seq (.region [⟨some 48, .build [(.int .u8 0), (.nilS 1)] [], none, 0⟩, ⟨none, .store 2 (.tmp 2) (.tmp 48), none, 1⟩, ⟨some 3, .assign (.val (.int .i64 0)), none, 3⟩, ⟨some 4, .assign (.val (.int .i64 61)), none, 7⟩] false) (.ret)) (.skip)))))) (.seq (.region [⟨some 49, .move (.tmp 8), none, 0⟩, ⟨some 50, .bin (.add) (.val (.int .i64 3)) (.tmp 49), none, 1⟩, ⟨some 51, .move (.tmp 7), none, 0⟩, ⟨some 52, .conv (.int (.i64)) (.tmp 51), none, 4⟩, ⟨some 53, .bin (.add) (.tmp 50) (.tmp 52), none, 15⟩, ⟨some 9, .assign (.tmp 53), none, 31⟩] false) (.seq (.seq (.region [⟨some 54, .move (.tmp 0), none, 0⟩, ⟨some 55, .len (.slc 1) (.tmp 54), none, 1⟩, ⟨some 56, .move (.tmp 9), none, 0⟩, ⟨some 57, .bin (.lss) (.tmp 55) (.tmp 56), none, 7⟩] false) (.cond (.tmp 57) (.seq (.region [⟨some 58, .build [(.int .u8 0), (.nilS 1)] [], none, 0⟩, ⟨none, .store 2 (.tmp 2) (.tmp 58), none, 1⟩, ⟨some 3, .assign (.val (.int .i64 0)), none, 3⟩, ⟨some 4, .assign (.val (.int .i64 61)), none, 7⟩] false) (.ret)) (.skip))) (.seq (.region [⟨some 59, .move (.tmp 0), none, 0⟩, ⟨some 60, .move (.tmp 9), none, 0⟩, ⟨some 61, .slice (.slc 1) (.tmp 59) none (some (.tmp 60)) none, none, 3⟩, ⟨some 62, .buildSlice 1 [(.isl 0 1 [])] [(0, (.tmp 61))], none, 7⟩, ⟨some 63, .call true 49 1 [(.tmp 62)], none, 15⟩, ⟨some 10, .assign (.tmp 63), none, 31⟩] false) (.seq (.seq (.region [⟨some 64, .move (.val (.int .i64 0)), none, 0⟩] false) (.block 3 (some [0, 2, 8, 9, 40]) (.loop (some [0, 2, 8, 9, 10, 40, 64]) (.seq (.region [⟨some 65, .bin (.lss) (.tmp 64) (.val (.int .i64 4)), none, 0⟩] false) (.seq (.cond (.tmp 65) (.skip) (.exit 3)) (.seq (.block 4 none (.seq (.region [⟨some 66, .move (.tmp 64), none, 0⟩, ⟨some 11, .assign (.tmp 66), none, 1⟩] false) (.seq (.seq (.region [⟨some 67, .move (.tmp 9), none, 0⟩, ⟨some 68, .move (.tmp 11), none, 0⟩, ⟨some 69, .bin (.add) (.tmp 67) (.tmp 68), none, 3⟩, ⟨some 70, .move (.tmp 0), none, 0⟩, ⟨some 71, .len (.slc 1) (.tmp 70), none, 8⟩, ⟨some 72, .bin (.geq) (.tmp 69) (.tmp 71), none, 31⟩] false) (.cond (.tmp 72) (.seq (.region [⟨some 73, .build [(.int .u8 0), (.nilS 1)] [], none, 0⟩, ⟨none, .store 2 (.tmp 2) (.tmp 73), none, 1⟩, ⟨some 3, .assign (.val (.int .i64 0)), none, 3⟩, ⟨some 4, .assign (.val (.int .i64 61)), none, 7⟩] false) (.ret)) (.skip))) (.seq (.region [⟨some 74, .move (.tmp 0), none, 0⟩, ⟨some 75, .move (.tmp 9), none, 0⟩, ⟨some 76, .move (.tmp 11), none, 0⟩, ⟨some 77, .bin (.add) (.tmp 75) (.tmp 76), none, 6⟩, ⟨some 78, .indexAddr none 1 (.tmp 74) (.tmp 77), none, 15⟩, ⟨some 79, .load false 1 (.tmp 78), none, 31⟩, ⟨some 80, .move (.tmp 10), none, 0⟩, ⟨some 81, .move (.tmp 11), none, 0⟩, ⟨some 82, .bin (.mul) (.val (.int .i64 8)) (.tmp 81), none, 128⟩, ⟨some 83, .bin (.shr) (.tmp 80) (.tmp 82), none, 448⟩, ⟨some 84, .conv (.int (.u8)) (.tmp 83), none, 960⟩, ⟨some 85, .eq true (.num) (.tmp 79) (.tmp 84), none, 2047⟩] true) (.cond (.tmp 85) (.seq (.region [⟨some 86, .build [(.int .u8 0), (.nilS 1)] [], none, 0⟩, ⟨none, .store 2 (.tmp 2) (.tmp 86), none, 1⟩, ⟨some 3, .assign (.val (.int .i64 0)), none, 3⟩, ⟨some 4, .assign (.val (.int .i64 62)), none, 7⟩] false) (.ret)) (.skip)))))) (.region [⟨some 87, .bin (.add) (.tmp 64) (.val (.int .i64 1)), none, 0⟩, ⟨some 64, .move (.tmp 87), none, 1⟩] false))))))) (.seq (.region [⟨some 88, .move (.tmp 0), none, 0⟩, ⟨some 89, .indexAddr none 1 (.tmp 88) (.val (.int .i64 2)), none, 1⟩, ⟨some 90, .load false 1 (.tmp 89), none, 3⟩, ⟨some 91, .move (.tmp 0), none, 0⟩, ⟨some 92, .move (.tmp 8), none, 0⟩, ⟨some 93, .bin (.add) (.val (.int .i64 3)) (.tmp 92), none, 16⟩, ⟨some 94, .move (.tmp 9), none, 0⟩, ⟨some 95, .slice (.slc 1) (.tmp 91) (some (.tmp 93)) (some (.tmp 94)) none, none, 120⟩, ⟨some 96, .call true 53 1 [(.tmp 95)], none, 248⟩, ⟨some 97, .build [(.int .u8 0), (.nilS 1)] [(0, 1, (.tmp 90)), (1, 1, (.tmp 96))], none, 511⟩, ⟨some 98, .move (.tmp 9), none, 0⟩, ⟨some 99, .bin (.add) (.tmp 98) (.val (.int .i64 4)), none, 1024⟩, ⟨none, .store 2 (.tmp 2) (.tmp 97), none, 1023⟩, ⟨some 3, .assign (.tmp 99), none, 8191⟩, ⟨some 4, .assign (.val (.int .i64 0)), none, 16383⟩] true) (.ret))))))))))
abbrev v34 : VFunc := { nparams := 1, ntmps := 100, nsites := 1, results := [.cell 2 true 2, .tmp 3, .tmp 4], body := b34 }
theorem byN_sub' (l : List Nat) (a b : Nat) : List.take a (List.drop b (byN l)) = byN ((l.drop b).take a) := by rw [byN_drop, byN_take]
theorem dec_cases' (lim : Nat) : ∀ (l : List Nat) (i n : Nat), dec lim i n l = (0, -1) ∨ dec lim i n l = (0, 0) ∨ ∃ N u : Nat, dec lim i n l = ((N : Int), (u : Int)) ∧ i < u ∧ u ≤ i + l.length ∧ N ≤ lim
  | [], i, n => .inr (.inl rfl)
  | x :: l, i, n => by
    rw [dec_cons]
    split
    · exact .inl rfl
    · rename_i h
      split
      · exact .inr (.inr ⟨_, _, rfl, by omega, by simp only [List.length_cons]; omega, by omega⟩)
      · split
        · exact .inl rfl
        · rcases dec_cases' lim l (i + 1) (n + x % 128 * 2 ^ (7 * i)) with h | h | ⟨N, u, h, h1, h2, h3⟩
          · exact .inl h
          · exact .inr (.inl h)
          · exact .inr (.inr ⟨N, u, h, by omega, by simp only [List.length_cons]; omega, h3⟩)
/-- What stands behind a frame's body, against its number: 0, or what is wrong. -/
def tailN : List Nat → List Nat → Nat
  | _, [] => 0
  | [], _ :: _ => 61
  | x :: r, y :: s => if x = y then tailN r s else 62
/-- The frame at the beginning of bytes: its kind and body, how many bytes it has, and what is wrong. -/
def openN (b : List Nat) : (Nat × List Nat) × Nat × Nat :=
  if (∃ h : 0 < b.length, b[0] ≠ 167) ∨ (∃ h : 1 < b.length, b[1] ≠ 1) then ((0, []), 0, 62) else
  if b.length < 3 then ((0, []), 0, 61) else
  let d := dec 65536 0 0 (b.drop 3)
  if d.2 < 0 then ((0, []), 0, 62) else if d.2 = 0 then ((0, []), 0, 61) else
  let e := 3 + d.2.toNat + d.1.toNat
  if b.length < e then ((0, []), 0, 61) else
  let t := tailN (b.drop e) (fourN (crc (b.take e)))
  if t ≠ 0 then ((0, []), 0, t) else ((b.getD 2 0, (b.drop (3 + d.2.toNat)).take d.1.toNat), e + 4, 0)
abbrev openV (r : (Nat × List Nat) × Nat × Nat) : V := .tup [.agg [.int .u8 (r.1.1 : Int), .xsl 0 1 (byN r.1.2)], .int .i64 (r.2.1 : Int), .int .i64 (r.2.2 : Int)]
section
variable (G : VProg)
theorem Open (hG : G 34 = some (.code v34))
    (hn : ∀ (l : List Nat), l.length < 2 ^ 40 → (∀ x ∈ l, x < 256) → Vq.lim G 52 [.isl 0 1 (byN l), .int .u64 65536] [] = some (.tup [.int .u64 (dec 65536 0 0 l).1, .int .i64 (dec 65536 0 0 l).2], []))
    (hO : ∀ l : List Nat, l.length < 2 ^ 40 → (∀ x ∈ l, x < 256) → Vq.lim G 49 [.isl 0 1 [.isl 0 1 (byN l)]] [] = some (.int .u32 (crc l : Nat), []))
    (hc : ∀ es : List V, es.length ≤ 140737488355328 → Vq.lim G 53 [.isl 0 1 es] [] = some (.xsl 0 1 es, []))
    (b : List Nat) (hb : ∀ x ∈ b, x < 256) (hl : b.length < 2 ^ 31) : Vq.lim G 34 [.isl 0 1 (byN b)] [] = some (openV (openN b), []) := by
  have i1 : IntKind.i64.wrap (0 + 1) = ((1 : Nat) : Int) := by decide
  have i2 : IntKind.i64.wrap (((1 : Nat) : Int) + 1) = ((2 : Nat) : Int) := by decide
  refine lim_fun hG (h := runV trivial trivial ?_)
  refine WL_unroll (σ1 := ⟨(.isl 0 1 (byN b) :: .gone 0 :: .ptr (.obj 0 0) :: .gone 0 :: .gone 0 :: .gone 0 :: .gone 0 :: .gone 0 :: .gone 0 :: .gone 0 :: .gone 0 :: .gone 0 :: .agg [.int .u8 167, .int .u8 1] :: .int .i64 0 :: .gone 0 :: .gone 0 :: .gone 0 :: .gone 0 :: .gone 0 :: .gone 0 :: .gone 0 :: .gone 0 :: .gone 0 :: .gone 0 :: .gone 0 :: .gone 0 :: .gone 0 :: .gone 0 :: .gone 0 :: .gone 0 :: .gone 0 :: .gone 0 :: .gone 0 :: .gone 0 :: .gone 0 :: .gone 0 :: .gone 0 :: .gone 0 :: .gone 0 :: .gone 0 :: .gone 0 :: .gone 0 :: .gone 0 :: .gone 0 :: .gone 0 :: .gone 0 :: .gone 0 :: .gone 0 :: .gone 0 :: .gone 0 :: .gone 0 :: .gone 0 :: .gone 0 :: .gone 0 :: .gone 0 :: .gone 0 :: .gone 0 :: .gone 0 :: .gone 0 :: .gone 0 :: .gone 0 :: .gone 0 :: .gone 0 :: .gone 0 :: .gone 0 :: .gone 0 :: .gone 0 :: .gone 0 :: .gone 0 :: .gone 0 :: .gone 0 :: .gone 0 :: .gone 0 :: .gone 0 :: .gone 0 :: .gone 0 :: .gone 0 :: .gone 0 :: .gone 0 :: .gone 0 :: .gone 0 :: .gone 0 :: .gone 0 :: .gone 0 :: .gone 0 :: .gone 0 :: .gone 0 :: .gone 0 :: .gone 0 :: .gone 0 :: .gone 0 :: .gone 0 :: .gone 0 :: .gone 0 :: .gone 0 :: .gone 0 :: .gone 0 :: .gone 0 :: .gone 0 :: .gone 0 :: []), [some (.cells [.int .u8 0, .xsl 0 1 []])]⟩) (by kernel_rfl) ?_
  by_cases h0 : 0 < b.length
  case neg =>
    obtain rfl : b = [] := List.eq_nil_of_length_eq_zero (by omega)
    have ho : openN [] = ((0, []), 0, 61) := by unfold openN; simp
    rw [ho]
    refine runV i1 trivial ?_
    refine Qu_n ?_
    refine WL_unroll (σ1 := ⟨(.isl 0 1 (byN []) :: .gone 0 :: .ptr (.obj 0 0) :: .gone 0 :: .gone 0 :: .gone 0 :: .gone 0 :: .gone 0 :: .gone 0 :: .gone 0 :: .gone 0 :: .gone 0 :: .agg [.int .u8 167, .int .u8 1] :: .int .i64 (1 : Nat) :: .gone 0 :: .gone 0 :: .gone 0 :: .gone 0 :: .gone 0 :: .gone 0 :: .gone 0 :: .gone 0 :: .gone 0 :: .gone 0 :: .gone 0 :: .gone 0 :: .gone 0 :: .gone 0 :: .gone 0 :: .gone 0 :: .gone 0 :: .gone 0 :: .gone 0 :: .gone 0 :: .gone 0 :: .gone 0 :: .gone 0 :: .gone 0 :: .gone 0 :: .gone 0 :: .gone 0 :: .gone 0 :: .gone 0 :: .gone 0 :: .gone 0 :: .gone 0 :: .gone 0 :: .gone 0 :: .gone 0 :: .gone 0 :: .gone 0 :: .gone 0 :: .gone 0 :: .gone 0 :: .gone 0 :: .gone 0 :: .gone 0 :: .gone 0 :: .gone 0 :: .gone 0 :: .gone 0 :: .gone 0 :: .gone 0 :: .gone 0 :: .gone 0 :: .gone 0 :: .gone 0 :: .gone 0 :: .gone 0 :: .gone 0 :: .gone 0 :: .gone 0 :: .gone 0 :: .gone 0 :: .gone 0 :: .gone 0 :: .gone 0 :: .gone 0 :: .gone 0 :: .gone 0 :: .gone 0 :: .gone 0 :: .gone 0 :: .gone 0 :: .gone 0 :: .gone 0 :: .gone 0 :: .gone 0 :: .gone 0 :: .gone 0 :: .gone 0 :: .gone 0 :: .gone 0 :: .gone 0 :: .gone 0 :: .gone 0 :: .gone 0 :: .gone 0 :: .gone 0 :: .gone 0 :: []), [some (.cells [.int .u8 0, .xsl 0 1 []])]⟩) (by kernel_rfl) ?_
    refine runV i2 trivial ?_
    refine Qu_n ?_
    refine WL_unroll (σ1 := ⟨(.isl 0 1 (byN []) :: .gone 0 :: .ptr (.obj 0 0) :: .gone 0 :: .gone 0 :: .gone 0 :: .gone 0 :: .gone 0 :: .gone 0 :: .gone 0 :: .gone 0 :: .gone 0 :: .agg [.int .u8 167, .int .u8 1] :: .int .i64 (2 : Nat) :: .gone 0 :: .gone 0 :: .gone 0 :: .gone 0 :: .gone 0 :: .gone 0 :: .gone 0 :: .gone 0 :: .gone 0 :: .gone 0 :: .gone 0 :: .gone 0 :: .gone 0 :: .gone 0 :: .gone 0 :: .gone 0 :: .gone 0 :: .gone 0 :: .gone 0 :: .gone 0 :: .gone 0 :: .gone 0 :: .gone 0 :: .gone 0 :: .gone 0 :: .gone 0 :: .gone 0 :: .gone 0 :: .gone 0 :: .gone 0 :: .gone 0 :: .gone 0 :: .gone 0 :: .gone 0 :: .gone 0 :: .gone 0 :: .gone 0 :: .gone 0 :: .gone 0 :: .gone 0 :: .gone 0 :: .gone 0 :: .gone 0 :: .gone 0 :: .gone 0 :: .gone 0 :: .gone 0 :: .gone 0 :: .gone 0 :: .gone 0 :: .gone 0 :: .gone 0 :: .gone 0 :: .gone 0 :: .gone 0 :: .gone 0 :: .gone 0 :: .gone 0 :: .gone 0 :: .gone 0 :: .gone 0 :: .gone 0 :: .gone 0 :: .gone 0 :: .gone 0 :: .gone 0 :: .gone 0 :: .gone 0 :: .gone 0 :: .gone 0 :: .gone 0 :: .gone 0 :: .gone 0 :: .gone 0 :: .gone 0 :: .gone 0 :: .gone 0 :: .gone 0 :: .gone 0 :: .gone 0 :: .gone 0 :: .gone 0 :: .gone 0 :: .gone 0 :: .gone 0 :: .gone 0 :: []), [some (.cells [.int .u8 0, .xsl 0 1 []])]⟩) (by kernel_rfl) ?_
    refine runV trivial trivial ?_
    refine Qu_x ?_
    refine Qb_x (σ1 := ⟨(.isl 0 1 (byN []) :: .gone 0 :: .ptr (.obj 0 0) :: .gone 0 :: .gone 0 :: .gone 0 :: .gone 0 :: .gone 0 :: .gone 0 :: .gone 0 :: .gone 0 :: .gone 0 :: .gone 0 :: .gone 0 :: .gone 0 :: .gone 0 :: .gone 0 :: .gone 0 :: .gone 0 :: .gone 0 :: .gone 0 :: .gone 0 :: .gone 0 :: .gone 0 :: .gone 0 :: .gone 0 :: .gone 0 :: .gone 0 :: .gone 0 :: .gone 0 :: .gone 0 :: .gone 0 :: .gone 0 :: .gone 0 :: .gone 0 :: .gone 0 :: .gone 0 :: .gone 0 :: .gone 0 :: .gone 0 :: .gone 0 :: .gone 0 :: .gone 0 :: .gone 0 :: .gone 0 :: .gone 0 :: .gone 0 :: .gone 0 :: .gone 0 :: .gone 0 :: .gone 0 :: .gone 0 :: .gone 0 :: .gone 0 :: .gone 0 :: .gone 0 :: .gone 0 :: .gone 0 :: .gone 0 :: .gone 0 :: .gone 0 :: .gone 0 :: .gone 0 :: .gone 0 :: .gone 0 :: .gone 0 :: .gone 0 :: .gone 0 :: .gone 0 :: .gone 0 :: .gone 0 :: .gone 0 :: .gone 0 :: .gone 0 :: .gone 0 :: .gone 0 :: .gone 0 :: .gone 0 :: .gone 0 :: .gone 0 :: .gone 0 :: .gone 0 :: .gone 0 :: .gone 0 :: .gone 0 :: .gone 0 :: .gone 0 :: .gone 0 :: .gone 0 :: .gone 0 :: .gone 0 :: .gone 0 :: .gone 0 :: .gone 0 :: .gone 0 :: .gone 0 :: .gone 0 :: .gone 0 :: .gone 0 :: .gone 0 :: []), [some (.cells [.int .u8 0, .xsl 0 1 []])]⟩) (by kernel_rfl) ?_
    exact runV trivial trivial trivial
  case pos =>
    have hg0 := byN_get b 0 h0
    have hlt0 : decide (0 < (b.length : Int)) = true := by simp; omega
    have hnil : ∀ {e : Nat}, openV ((0, []), 0, e) = .tup [.agg [.int .u8 0, .xsl 0 1 []], .int .i64 0, .int .i64 (e : Int)] := rfl
    by_cases x0 : b[0] = 167
    case neg =>
      have ho : openN b = ((0, []), 0, 62) := by unfold openN; rw [if_pos (.inl ⟨h0, x0⟩)]
      rw [ho]
      have c0 : (((b[0] : Nat) : Int) == 167) = false := by simp; omega
      exact runV (And.intro hlt0 (And.intro hg0 c0)) trivial trivial
    have c0 : (((b[0] : Nat) : Int) == 167) = true := by simp; omega
    refine runV (And.intro hlt0 (And.intro hg0 (And.intro c0 i1))) trivial ?_
    refine Qu_n ?_
    refine WL_unroll (σ1 := ⟨(.isl 0 1 (byN b) :: .gone 0 :: .ptr (.obj 0 0) :: .gone 0 :: .gone 0 :: .gone 0 :: .gone 0 :: .gone 0 :: .gone 0 :: .gone 0 :: .gone 0 :: .gone 0 :: .agg [.int .u8 167, .int .u8 1] :: .int .i64 (1 : Nat) :: .gone 0 :: .gone 0 :: .gone 0 :: .gone 0 :: .gone 0 :: .gone 0 :: .gone 0 :: .gone 0 :: .gone 0 :: .gone 0 :: .gone 0 :: .gone 0 :: .gone 0 :: .gone 0 :: .gone 0 :: .gone 0 :: .gone 0 :: .gone 0 :: .gone 0 :: .gone 0 :: .gone 0 :: .gone 0 :: .gone 0 :: .gone 0 :: .gone 0 :: .gone 0 :: .gone 0 :: .gone 0 :: .gone 0 :: .gone 0 :: .gone 0 :: .gone 0 :: .gone 0 :: .gone 0 :: .gone 0 :: .gone 0 :: .gone 0 :: .gone 0 :: .gone 0 :: .gone 0 :: .gone 0 :: .gone 0 :: .gone 0 :: .gone 0 :: .gone 0 :: .gone 0 :: .gone 0 :: .gone 0 :: .gone 0 :: .gone 0 :: .gone 0 :: .gone 0 :: .gone 0 :: .gone 0 :: .gone 0 :: .gone 0 :: .gone 0 :: .gone 0 :: .gone 0 :: .gone 0 :: .gone 0 :: .gone 0 :: .gone 0 :: .gone 0 :: .gone 0 :: .gone 0 :: .gone 0 :: .gone 0 :: .gone 0 :: .gone 0 :: .gone 0 :: .gone 0 :: .gone 0 :: .gone 0 :: .gone 0 :: .gone 0 :: .gone 0 :: .gone 0 :: .gone 0 :: .gone 0 :: .gone 0 :: .gone 0 :: .gone 0 :: .gone 0 :: .gone 0 :: .gone 0 :: []), [some (.cells [.int .u8 0, .xsl 0 1 []])]⟩) (by kernel_rfl) ?_
    by_cases h1 : 1 < b.length
    case neg =>
      have ho : openN b = ((0, []), 0, 61) := by
        unfold openN
        rw [if_neg (by rintro (⟨h, h'⟩ | ⟨h, h'⟩); exact h' x0; exact h1 h), if_pos (by omega)]
      rw [ho]
      have c1 : decide (((1 : Nat) : Int) < (b.length : Int)) = false := by simp; omega
      have c3 : decide ((b.length : Int) < 3) = true := by simp; omega
      refine runV (And.intro c1 i2) trivial ?_
      refine Qu_n ?_
      refine WL_unroll (σ1 := ⟨(.isl 0 1 (byN b) :: .gone 0 :: .ptr (.obj 0 0) :: .gone 0 :: .gone 0 :: .gone 0 :: .gone 0 :: .gone 0 :: .gone 0 :: .gone 0 :: .gone 0 :: .gone 0 :: .agg [.int .u8 167, .int .u8 1] :: .int .i64 (2 : Nat) :: .gone 0 :: .gone 0 :: .gone 0 :: .gone 0 :: .gone 0 :: .gone 0 :: .gone 0 :: .gone 0 :: .gone 0 :: .gone 0 :: .gone 0 :: .gone 0 :: .gone 0 :: .gone 0 :: .gone 0 :: .gone 0 :: .gone 0 :: .gone 0 :: .gone 0 :: .gone 0 :: .gone 0 :: .gone 0 :: .gone 0 :: .gone 0 :: .gone 0 :: .gone 0 :: .gone 0 :: .gone 0 :: .gone 0 :: .gone 0 :: .gone 0 :: .gone 0 :: .gone 0 :: .gone 0 :: .gone 0 :: .gone 0 :: .gone 0 :: .gone 0 :: .gone 0 :: .gone 0 :: .gone 0 :: .gone 0 :: .gone 0 :: .gone 0 :: .gone 0 :: .gone 0 :: .gone 0 :: .gone 0 :: .gone 0 :: .gone 0 :: .gone 0 :: .gone 0 :: .gone 0 :: .gone 0 :: .gone 0 :: .gone 0 :: .gone 0 :: .gone 0 :: .gone 0 :: .gone 0 :: .gone 0 :: .gone 0 :: .gone 0 :: .gone 0 :: .gone 0 :: .gone 0 :: .gone 0 :: .gone 0 :: .gone 0 :: .gone 0 :: .gone 0 :: .gone 0 :: .gone 0 :: .gone 0 :: .gone 0 :: .gone 0 :: .gone 0 :: .gone 0 :: .gone 0 :: .gone 0 :: .gone 0 :: .gone 0 :: .gone 0 :: .gone 0 :: .gone 0 :: .gone 0 :: []), [some (.cells [.int .u8 0, .xsl 0 1 []])]⟩) (by kernel_rfl) ?_
      refine runV trivial trivial ?_
      refine Qu_x ?_
      refine Qb_x (σ1 := ⟨(.isl 0 1 (byN b) :: .gone 0 :: .ptr (.obj 0 0) :: .gone 0 :: .gone 0 :: .gone 0 :: .gone 0 :: .gone 0 :: .gone 0 :: .gone 0 :: .gone 0 :: .gone 0 :: .gone 0 :: .gone 0 :: .gone 0 :: .gone 0 :: .gone 0 :: .gone 0 :: .gone 0 :: .gone 0 :: .gone 0 :: .gone 0 :: .gone 0 :: .gone 0 :: .gone 0 :: .gone 0 :: .gone 0 :: .gone 0 :: .gone 0 :: .gone 0 :: .gone 0 :: .gone 0 :: .gone 0 :: .gone 0 :: .gone 0 :: .gone 0 :: .gone 0 :: .gone 0 :: .gone 0 :: .gone 0 :: .gone 0 :: .gone 0 :: .gone 0 :: .gone 0 :: .gone 0 :: .gone 0 :: .gone 0 :: .gone 0 :: .gone 0 :: .gone 0 :: .gone 0 :: .gone 0 :: .gone 0 :: .gone 0 :: .gone 0 :: .gone 0 :: .gone 0 :: .gone 0 :: .gone 0 :: .gone 0 :: .gone 0 :: .gone 0 :: .gone 0 :: .gone 0 :: .gone 0 :: .gone 0 :: .gone 0 :: .gone 0 :: .gone 0 :: .gone 0 :: .gone 0 :: .gone 0 :: .gone 0 :: .gone 0 :: .gone 0 :: .gone 0 :: .gone 0 :: .gone 0 :: .gone 0 :: .gone 0 :: .gone 0 :: .gone 0 :: .gone 0 :: .gone 0 :: .gone 0 :: .gone 0 :: .gone 0 :: .gone 0 :: .gone 0 :: .gone 0 :: .gone 0 :: .gone 0 :: .gone 0 :: .gone 0 :: .gone 0 :: .gone 0 :: .gone 0 :: .gone 0 :: .gone 0 :: .gone 0 :: []), [some (.cells [.int .u8 0, .xsl 0 1 []])]⟩) (by kernel_rfl) ?_
      exact runV c3 trivial trivial
    have hg1 := byN_get b 1 h1
    have c1 : decide (((1 : Nat) : Int) < (b.length : Int)) = true := by simp; omega
    by_cases x1 : b[1] = 1
    case neg =>
      have ho : openN b = ((0, []), 0, 62) := by unfold openN; rw [if_pos (.inr ⟨h1, x1⟩)]
      rw [ho]
      have d1 : (((b[1] : Nat) : Int) == 1) = false := by simp; omega
      exact runV (And.intro c1 (And.intro hg1 d1)) trivial trivial
    have d1 : (((b[1] : Nat) : Int) == 1) = true := by simp; omega
    refine runV (And.intro c1 (And.intro hg1 (And.intro d1 i2))) trivial ?_
    refine Qu_n ?_
    refine WL_unroll (σ1 := ⟨(.isl 0 1 (byN b) :: .gone 0 :: .ptr (.obj 0 0) :: .gone 0 :: .gone 0 :: .gone 0 :: .gone 0 :: .gone 0 :: .gone 0 :: .gone 0 :: .gone 0 :: .gone 0 :: .agg [.int .u8 167, .int .u8 1] :: .int .i64 (2 : Nat) :: .gone 0 :: .gone 0 :: .gone 0 :: .gone 0 :: .gone 0 :: .gone 0 :: .gone 0 :: .gone 0 :: .gone 0 :: .gone 0 :: .gone 0 :: .gone 0 :: .gone 0 :: .gone 0 :: .gone 0 :: .gone 0 :: .gone 0 :: .gone 0 :: .gone 0 :: .gone 0 :: .gone 0 :: .gone 0 :: .gone 0 :: .gone 0 :: .gone 0 :: .gone 0 :: .gone 0 :: .gone 0 :: .gone 0 :: .gone 0 :: .gone 0 :: .gone 0 :: .gone 0 :: .gone 0 :: .gone 0 :: .gone 0 :: .gone 0 :: .gone 0 :: .gone 0 :: .gone 0 :: .gone 0 :: .gone 0 :: .gone 0 :: .gone 0 :: .gone 0 :: .gone 0 :: .gone 0 :: .gone 0 :: .gone 0 :: .gone 0 :: .gone 0 :: .gone 0 :: .gone 0 :: .gone 0 :: .gone 0 :: .gone 0 :: .gone 0 :: .gone 0 :: .gone 0 :: .gone 0 :: .gone 0 :: .gone 0 :: .gone 0 :: .gone 0 :: .gone 0 :: .gone 0 :: .gone 0 :: .gone 0 :: .gone 0 :: .gone 0 :: .gone 0 :: .gone 0 :: .gone 0 :: .gone 0 :: .gone 0 :: .gone 0 :: .gone 0 :: .gone 0 :: .gone 0 :: .gone 0 :: .gone 0 :: .gone 0 :: .gone 0 :: .gone 0 :: .gone 0 :: .gone 0 :: []), [some (.cells [.int .u8 0, .xsl 0 1 []])]⟩) (by kernel_rfl) ?_
    refine runV trivial trivial ?_
    refine Qu_x ?_
    refine Qb_x (σ1 := ⟨(.isl 0 1 (byN b) :: .gone 0 :: .ptr (.obj 0 0) :: .gone 0 :: .gone 0 :: .gone 0 :: .gone 0 :: .gone 0 :: .gone 0 :: .gone 0 :: .gone 0 :: .gone 0 :: .gone 0 :: .gone 0 :: .gone 0 :: .gone 0 :: .gone 0 :: .gone 0 :: .gone 0 :: .gone 0 :: .gone 0 :: .gone 0 :: .gone 0 :: .gone 0 :: .gone 0 :: .gone 0 :: .gone 0 :: .gone 0 :: .gone 0 :: .gone 0 :: .gone 0 :: .gone 0 :: .gone 0 :: .gone 0 :: .gone 0 :: .gone 0 :: .gone 0 :: .gone 0 :: .gone 0 :: .gone 0 :: .gone 0 :: .gone 0 :: .gone 0 :: .gone 0 :: .gone 0 :: .gone 0 :: .gone 0 :: .gone 0 :: .gone 0 :: .gone 0 :: .gone 0 :: .gone 0 :: .gone 0 :: .gone 0 :: .gone 0 :: .gone 0 :: .gone 0 :: .gone 0 :: .gone 0 :: .gone 0 :: .gone 0 :: .gone 0 :: .gone 0 :: .gone 0 :: .gone 0 :: .gone 0 :: .gone 0 :: .gone 0 :: .gone 0 :: .gone 0 :: .gone 0 :: .gone 0 :: .gone 0 :: .gone 0 :: .gone 0 :: .gone 0 :: .gone 0 :: .gone 0 :: .gone 0 :: .gone 0 :: .gone 0 :: .gone 0 :: .gone 0 :: .gone 0 :: .gone 0 :: .gone 0 :: .gone 0 :: .gone 0 :: .gone 0 :: .gone 0 :: .gone 0 :: .gone 0 :: .gone 0 :: .gone 0 :: .gone 0 :: .gone 0 :: .gone 0 :: .gone 0 :: .gone 0 :: .gone 0 :: []), [some (.cells [.int .u8 0, .xsl 0 1 []])]⟩) (by kernel_rfl) ?_
    have hh : ¬ ((∃ h : 0 < b.length, b[0] ≠ 167) ∨ (∃ h : 1 < b.length, b[1] ≠ 1)) := by
      rintro (⟨h, h'⟩ | ⟨h, h'⟩)
      · exact h' x0
      · exact h' x1
    unfold openN
    rw [if_neg hh]
    by_cases h3 : b.length < 3
    case pos =>
      rw [if_pos h3]
      have c3 : decide ((b.length : Int) < 3) = true := by simp; omega
      exact runV c3 trivial trivial
    rw [if_neg h3]
    have c3 : decide ((b.length : Int) < 3) = false := by simp; omega
    have hb3 : ∀ x ∈ b.drop 3, x < 256 := fun x hx => hb x (List.mem_of_mem_drop hx)
    have h2 := hn (b.drop 3) (by simp; omega) hb3
    have e3 : List.take (b.length - 3) (List.drop 3 (byN b)) = byN (b.drop 3) := by rw [byN_sub', List.take_of_length_le (by simp)]
    rcases dec_cases' 65536 (b.drop 3) 0 0 with h | h | ⟨N, u, h, hu1, hu2, hu3⟩
    · rw [h] at h2 ⊢
      have c4 : decide ((-1 : Int) < 0) = true := rfl
      exact runV (And.intro c3 (And.intro e3 c4)) trivial trivial
    · rw [h] at h2 ⊢
      have c4 : decide ((0 : Int) < 0) = false := rfl
      exact runV (And.intro c3 (And.intro e3 c4)) trivial trivial
    rw [h] at h2 ⊢
    have hN : N ≤ 65536 := hu3
    have hu : 3 + u ≤ b.length := by simp at hu2; omega
    simp only [Int.toNat_natCast]
    rw [if_neg (by omega), if_neg (by omega)]
    have c4 : decide ((u : Int) < 0) = false := by simp
    have c5 : ((u : Int) == 0) = false := by simp; omega
    have s1 : IntKind.i64.wrap (3 + (u : Int)) = ((3 + u : Nat) : Int) := by rw [wrapi64 _ (by omega) (by omega)]; omega
    have s2 : IntKind.i64.wrap (N : Int) = (N : Int) := wrapi64 _ (by omega) (by omega)
    have s3 : IntKind.i64.wrap (((3 + u : Nat) : Int) + (N : Int)) = ((3 + u + N : Nat) : Int) := by rw [wrapi64 _ (by omega) (by omega)]; omega
    have F := And.intro c3 (And.intro e3 (And.intro c4 (And.intro c5 (And.intro s1 (And.intro s2 s3)))))
    by_cases h4 : b.length < 3 + u + N
    case pos =>
      rw [if_pos h4]
      have c6 : decide ((b.length : Int) < ((3 + u + N : Nat) : Int)) = true := by simp; omega
      exact runV (And.intro c6 F) trivial trivial
    rw [if_neg h4]
    have c6 : decide ((b.length : Int) < ((3 + u + N : Nat) : Int)) = false := by simp; omega
    have h5 := hO (b.take (3 + u + N)) (by simp; omega) (fun x hx => hb x (List.mem_of_mem_take hx))
    obtain ⟨e, he⟩ : ∃ e, e = 3 + u + N := ⟨_, rfl⟩
    rw [← he] at h5 c6 h4 F ⊢
    have hel : e ≤ b.length := by omega
    obtain ⟨c, hcd⟩ : ∃ c, c = crc (b.take e) := ⟨_, rfl⟩
    have hc32 : c < 2 ^ 32 := by rw [hcd]; exact crc_lt _
    rw [← hcd] at h5 ⊢
    obtain ⟨t, htd⟩ : ∃ t, t = tailN (b.drop e) (fourN c) := ⟨_, rfl⟩
    rw [← htd]
    refine runV (And.intro c6 F) trivial ?_
    refine WL_loop (fun i : Nat => ⟨(.isl 0 1 (byN b) :: .gone 0 :: .ptr (.obj 0 0) :: .gone 0 :: .gone 0 :: .gone 0 :: .gone 0 :: .gone 0 :: .int .i64 u :: .int .i64 e :: .int .u32 c :: .gone 0 :: .gone 0 :: .gone 0 :: .gone 0 :: .gone 0 :: .gone 0 :: .gone 0 :: .gone 0 :: .gone 0 :: .gone 0 :: .gone 0 :: .gone 0 :: .gone 0 :: .gone 0 :: .gone 0 :: .gone 0 :: .gone 0 :: .gone 0 :: .gone 0 :: .gone 0 :: .gone 0 :: .gone 0 :: .gone 0 :: .gone 0 :: .gone 0 :: .gone 0 :: .gone 0 :: .gone 0 :: .gone 0 :: .int .i64 u :: .gone 0 :: .gone 0 :: .gone 0 :: .gone 0 :: .gone 0 :: .gone 0 :: .gone 0 :: .gone 0 :: .gone 0 :: .gone 0 :: .gone 0 :: .gone 0 :: .gone 0 :: .gone 0 :: .gone 0 :: .gone 0 :: .gone 0 :: .gone 0 :: .gone 0 :: .gone 0 :: .gone 0 :: .gone 0 :: .gone 0 :: .int .i64 i :: .gone 0 :: .gone 0 :: .gone 0 :: .gone 0 :: .gone 0 :: .gone 0 :: .gone 0 :: .gone 0 :: .gone 0 :: .gone 0 :: .gone 0 :: .gone 0 :: .gone 0 :: .gone 0 :: .gone 0 :: .gone 0 :: .gone 0 :: .gone 0 :: .gone 0 :: .gone 0 :: .gone 0 :: .gone 0 :: .gone 0 :: .gone 0 :: .gone 0 :: .gone 0 :: .gone 0 :: .gone 0 :: .gone 0 :: .gone 0 :: .gone 0 :: .gone 0 :: .gone 0 :: .gone 0 :: .gone 0 :: []), [some (.cells [.int .u8 0, .xsl 0 1 []])]⟩)
      (fun i => i ≤ 4 ∧ tailN (b.drop (e + i)) ((fourN c).drop i) = t) (fun i => 4 - i) ?_ 0 _ ⟨by omega, htd.symm⟩ (by kernel_rfl)
    rintro i ⟨hi, ht⟩
    by_cases hi4 : i < 4
    · have g1 : decide ((i : Int) < 4) = true := by simp; omega
      have g2 := inc64 i (by omega)
      have g3 : IntKind.i64.wrap ((e : Int) + (i : Int)) = ((e + i : Nat) : Int) := by rw [wrapi64 _ (by omega) (by omega)]; omega
      have hdr : (fourN c).drop i = (c / 2 ^ (8 * i) % 256) :: (fourN c).drop (i + 1) := by
        rcases (by omega : i = 0 ∨ i = 1 ∨ i = 2 ∨ i = 3) with rfl | rfl | rfl | rfl <;> simp [fourN]
      rw [hdr] at ht
      by_cases h6 : e + i < b.length
      case neg =>
        rw [List.drop_of_length_le (by omega)] at ht
        have ht' : t = 61 := ht.symm
        subst ht'
        rw [if_pos (by decide)]
        have g4 : decide ((b.length : Int) ≤ ((e + i : Nat) : Int)) = true := by simp; omega
        refine runV (And.intro g1 (And.intro g2 (And.intro g3 g4))) trivial ?_
        exact Qr_r (Qb_r (Qs_r (Qe_r (by kernel_rfl))))
      have g4 : decide ((b.length : Int) ≤ ((e + i : Nat) : Int)) = false := by simp; omega
      have g5 := byN_get b (e + i) h6
      have g6 : IntKind.i64.wrap (8 * (i : Int)) = ((8 * i : Nat) : Int) := by rw [wrapi64 _ (by omega) (by omega)]; omega
      have g7 : (c : Int).fdiv (2 ^ min (8 * i) IntKind.u32.bits) = ((c / 2 ^ (8 * i) : Nat) : Int) := by
        have e1 : min (8 * i) IntKind.u32.bits = 8 * i := Nat.min_eq_left (by show 8 * i ≤ 32; omega)
        rw [e1, Int.fdiv_eq_ediv_of_nonneg _ (by exact Int.le_of_lt (Int.pow_pos (by decide)))]
        rw [show (2 : Int) ^ (8 * i) = ((2 ^ (8 * i) : Nat) : Int) by rw [Int.natCast_pow]; rfl]
        rfl
      have g8 := wrap8m (c / 2 ^ (8 * i))
      rw [List.drop_eq_getElem_cons h6] at ht
      obtain ⟨x, hx⟩ : ∃ x, x = b[e + i] := ⟨_, rfl⟩
      obtain ⟨y, hy⟩ : ∃ y, y = c / 2 ^ (8 * i) % 256 := ⟨_, rfl⟩
      rw [← hx] at ht g5
      rw [← hy] at ht g8
      have F2 := And.intro g1 (And.intro g2 (And.intro g3 (And.intro g4 (And.intro g5 (And.intro g6 (And.intro g7 g8))))))
      simp only [tailN] at ht
      by_cases hxy : x = y
      · rw [if_pos hxy] at ht
        have g9 : ((x : Int) == (y : Int)) = true := by simp; omega
        refine runV (And.intro g9 F2) trivial ?_
        exact Qr_n (i + 1) (by kernel_rfl) ⟨⟨by omega, by rw [← Nat.add_assoc]; exact ht⟩, by omega⟩
      · rw [if_neg hxy] at ht
        have ht' : t = 62 := ht.symm
        subst ht'
        rw [if_pos (by decide)]
        have g9 : ((x : Int) == (y : Int)) = false := by simp; omega
        refine runV (And.intro g9 F2) trivial ?_
        exact Qr_r (Qb_r (Qs_r (Qe_r (by kernel_rfl))))
    · obtain rfl : i = 4 := by omega
      have ht' : t = 0 := by rw [← ht]; unfold fourN; simp [tailN]
      subst ht'
      rw [if_neg (by simp)]
      refine runV trivial trivial ?_
      refine Qr_x ?_
      refine Qb_x (σ1 := ⟨(.isl 0 1 (byN b) :: .gone 0 :: .ptr (.obj 0 0) :: .gone 0 :: .gone 0 :: .gone 0 :: .gone 0 :: .gone 0 :: .int .i64 u :: .int .i64 e :: .gone 0 :: .gone 0 :: .gone 0 :: .gone 0 :: .gone 0 :: .gone 0 :: .gone 0 :: .gone 0 :: .gone 0 :: .gone 0 :: .gone 0 :: .gone 0 :: .gone 0 :: .gone 0 :: .gone 0 :: .gone 0 :: .gone 0 :: .gone 0 :: .gone 0 :: .gone 0 :: .gone 0 :: .gone 0 :: .gone 0 :: .gone 0 :: .gone 0 :: .gone 0 :: .gone 0 :: .gone 0 :: .gone 0 :: .gone 0 :: .int .i64 u :: .gone 0 :: .gone 0 :: .gone 0 :: .gone 0 :: .gone 0 :: .gone 0 :: .gone 0 :: .gone 0 :: .gone 0 :: .gone 0 :: .gone 0 :: .gone 0 :: .gone 0 :: .gone 0 :: .gone 0 :: .gone 0 :: .gone 0 :: .gone 0 :: .gone 0 :: .gone 0 :: .gone 0 :: .gone 0 :: .gone 0 :: .gone 0 :: .gone 0 :: .gone 0 :: .gone 0 :: .gone 0 :: .gone 0 :: .gone 0 :: .gone 0 :: .gone 0 :: .gone 0 :: .gone 0 :: .gone 0 :: .gone 0 :: .gone 0 :: .gone 0 :: .gone 0 :: .gone 0 :: .gone 0 :: .gone 0 :: .gone 0 :: .gone 0 :: .gone 0 :: .gone 0 :: .gone 0 :: .gone 0 :: .gone 0 :: .gone 0 :: .gone 0 :: .gone 0 :: .gone 0 :: .gone 0 :: .gone 0 :: .gone 0 :: .gone 0 :: .gone 0 :: .gone 0 :: []), [some (.cells [.int .u8 0, .xsl 0 1 []])]⟩) (by kernel_rfl) ?_
      have h2l : 2 < b.length := by omega
      have k1 := byN_get b 2 h2l
      have k2 : b.getD 2 0 = b[2] := by simp [List.getD_eq_getElem?_getD, h2l]
      rw [k2]
      obtain ⟨kd, hkd⟩ : ∃ k, k = b[2] := ⟨_, rfl⟩
      rw [← hkd] at k1 ⊢
      obtain ⟨body, hbody⟩ : ∃ l, l = (b.drop (3 + u)).take N := ⟨_, rfl⟩
      have k3 : List.take (e - (3 + u)) (List.drop (3 + u) (byN b)) = byN body := by rw [byN_sub', hbody]; congr 2; omega
      rw [← hbody]
      have k4 := hc (byN body) (by rw [byN_len, hbody]; simp; omega)
      have k5 : V.apart (.xsl 0 1 (byN body)) = true := by simp [V.apart, V.leaves, byN, V.noslice]
      have k6 : IntKind.i64.wrap ((e : Int) + 4) = ((e + 4 : Nat) : Int) := by rw [wrapi64 _ (by omega) (by omega)]; omega
      have k7 : 3 + u ≤ e := by omega
      refine runV (And.intro k1 (And.intro k3 (And.intro k6 s1))) k5 ?_
      exact Qe_r (fin_cell rfl rfl rfl rfl rfl rfl)
end
end P1
end Go.Vq

