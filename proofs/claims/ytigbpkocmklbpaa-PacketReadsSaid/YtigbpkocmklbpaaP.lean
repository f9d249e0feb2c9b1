/- The V-level machine, run on values that are not known (no law of Go is stated here). -/
import Derived.Test.YtigbpkocmklbpaaT
import Derived.KernelRfl
set_option linter.unusedVariables false
set_option linter.unusedSimpArgs false
set_option linter.unusedSectionVars false
namespace Go.Vq
namespace P1
open Go
set_option maxRecDepth 1000000
set_option maxHeartbeats 4000000
abbrev b55 : VCode := .seq (.region [⟨some 4, .assign (.val (.int .u32 0)), none, 0⟩] false) (.seq (.seq (.region [⟨some 5, .move (.tmp 1), none, 0⟩, ⟨some 6, .move (.val (.int .i64 0)), none, 0⟩] false) (.block 0 (some [0]) (.loop (some [0, 1, 5, 6]) (.seq (.region [⟨some 7, .bin (.lss) (.tmp 6) (.tmp 5), none, 0⟩] false) (.seq (.cond (.tmp 7) (.skip) (.exit 0)) (.seq (.block 1 none (.region [⟨some 8, .move (.tmp 0), none, 0⟩, ⟨some 9, .bin (.shr) (.tmp 8) (.val (.int .u64 1)), none, 1⟩, ⟨some 10, .move (.tmp 0), none, 0⟩, ⟨some 11, .bin (.and) (.tmp 10) (.val (.int .u32 1)), none, 4⟩, ⟨some 12, .un (.neg) (.tmp 11), none, 12⟩, ⟨some 13, .bin (.and) (.val (.int .u32 2197175160)) (.tmp 12), none, 28⟩, ⟨some 14, .bin (.xor) (.tmp 9) (.tmp 13), none, 63⟩, ⟨some 0, .assign (.tmp 14), none, 127⟩] false)) (.region [⟨some 15, .bin (.add) (.tmp 6) (.val (.int .i64 1)), none, 0⟩, ⟨some 6, .move (.tmp 15), none, 1⟩] false))))))) (.seq (.region [⟨some 16, .move (.tmp 0), none, 0⟩, ⟨some 4, .assign (.tmp 16), none, 1⟩] false) (.ret)))
abbrev v55 : VFunc := { nparams := 2, ntmps := 17, nsites := 0, results := [.tmp 4], body := b55 }
abbrev b49 : VCode := .seq (.region [⟨some 2, .assign (.val (.int .u32 0)), none, 0⟩] false) (.seq (.region [⟨some 3, .assign (.val (.int .u32 4294967295)), none, 0⟩] false) (.seq (.seq (.region [⟨some 8, .move (.tmp 0), none, 0⟩, ⟨some 9, .len (.slc 1) (.tmp 8), none, 1⟩, ⟨some 10, .move (.val (.int .i64 0)), none, 0⟩] false) (.block 0 (some [3]) (.loop (some [0, 3, 8, 9, 10]) (.seq (.region [⟨some 11, .bin (.lss) (.tmp 10) (.tmp 9), none, 0⟩] false) (.seq (.cond (.tmp 11) (.skip) (.exit 0)) (.seq (.block 1 (some [0, 3, 8, 9, 10]) (.seq (.region [⟨some 12, .indexAddr none 1 (.tmp 8) (.tmp 10), none, 0⟩, ⟨some 13, .load false 1 (.tmp 12), none, 1⟩, ⟨some 5, .assign (.tmp 13), none, 3⟩] false) (.seq (.region [⟨some 14, .move (.tmp 5), none, 0⟩, ⟨some 15, .len (.slc 1) (.tmp 14), none, 1⟩, ⟨some 16, .move (.val (.int .i64 0)), none, 0⟩] false) (.block 2 (some [0, 3, 8, 9, 10]) (.loop (some [0, 3, 5, 8, 9, 10, 12, 13, 14, 15, 16]) (.seq (.region [⟨some 17, .bin (.lss) (.tmp 16) (.tmp 15), none, 0⟩] false) (.seq (.cond (.tmp 17) (.skip) (.exit 2)) (.seq (.block 3 none (.seq (.region [⟨some 18, .indexAddr none 1 (.tmp 14) (.tmp 16), none, 0⟩, ⟨some 19, .load false 1 (.tmp 18), none, 1⟩, ⟨some 7, .assign (.tmp 19), none, 3⟩] false) (.region [⟨some 20, .move (.tmp 3), none, 0⟩, ⟨some 21, .move (.tmp 7), none, 0⟩, ⟨some 22, .conv (.int (.u32)) (.tmp 21), none, 2⟩, ⟨some 23, .bin (.xor) (.tmp 20) (.tmp 22), none, 7⟩, ⟨some 24, .call true 55 0 [(.tmp 23), (.val (.int .i64 8))], none, 15⟩, ⟨some 3, .assign (.tmp 24), none, 31⟩] false))) (.region [⟨some 25, .bin (.add) (.tmp 16) (.val (.int .i64 1)), none, 0⟩, ⟨some 16, .move (.tmp 25), none, 1⟩] false))))))))) (.region [⟨some 26, .bin (.add) (.tmp 10) (.val (.int .i64 1)), none, 0⟩, ⟨some 10, .move (.tmp 26), none, 1⟩] false))))))) (.seq (.region [⟨some 27, .move (.tmp 3), none, 0⟩, ⟨some 28, .un (.xor) (.tmp 27), none, 1⟩, ⟨some 2, .assign (.tmp 28), none, 3⟩] false) (.ret))))
abbrev v49 : VFunc := { nparams := 1, ntmps := 29, nsites := 0, results := [.tmp 2], body := b49 }
abbrev b56 : VCode := .seq (.region [⟨some 2, .assign (.val (.int .u64 0)), none, 0⟩] false) (.seq (.seq (.region [⟨some 3, .move (.tmp 0), none, 0⟩, ⟨some 4, .bin (.rem) (.tmp 3) (.val (.int .u64 2)), none, 1⟩, ⟨some 5, .eq false (.num) (.tmp 4) (.val (.int .u64 1)), none, 3⟩] false) (.cond (.tmp 5) (.seq (.region [⟨some 6, .move (.tmp 0), none, 0⟩, ⟨some 7, .bin (.quo) (.tmp 6) (.val (.int .u64 2)), none, 1⟩, ⟨some 8, .bin (.xor) (.tmp 7) (.val (.int .u64 2197175160)), none, 3⟩, ⟨some 2, .assign (.tmp 8), none, 7⟩] false) (.ret)) (.skip))) (.seq (.region [⟨some 9, .move (.tmp 0), none, 0⟩, ⟨some 10, .bin (.quo) (.tmp 9) (.val (.int .u64 2)), none, 1⟩, ⟨some 2, .assign (.tmp 10), none, 3⟩] false) (.ret)))
abbrev v56 : VFunc := { nparams := 1, ntmps := 11, nsites := 0, results := [.tmp 2], body := b56 }
abbrev b51 : VCode := .seq (.region [⟨some 2, .assign (.val (.int .u32 0)), none, 0⟩] false) (.seq (.region [⟨some 3, .assign (.val (.int .u64 4294967295)), none, 0⟩] false) (.seq (.seq (.region [⟨some 7, .move (.tmp 0), none, 0⟩, ⟨some 8, .len (.slc 1) (.tmp 7), none, 1⟩, ⟨some 9, .move (.val (.int .i64 0)), none, 0⟩] false) (.block 0 (some [3]) (.loop (some [0, 3, 7, 8, 9]) (.seq (.region [⟨some 10, .bin (.lss) (.tmp 9) (.tmp 8), none, 0⟩] false) (.seq (.cond (.tmp 10) (.skip) (.exit 0)) (.seq (.block 1 (some [0, 3, 7, 8, 9]) (.seq (.region [⟨some 11, .indexAddr none 1 (.tmp 7) (.tmp 9), none, 0⟩, ⟨some 12, .load false 1 (.tmp 11), none, 1⟩, ⟨some 5, .assign (.tmp 12), none, 3⟩] false) (.seq (.region [⟨some 13, .move (.tmp 3), none, 0⟩, ⟨some 14, .move (.tmp 5), none, 0⟩, ⟨some 15, .conv (.int (.u64)) (.tmp 14), none, 2⟩, ⟨some 16, .bin (.xor) (.tmp 13) (.tmp 15), none, 7⟩, ⟨some 3, .assign (.tmp 16), none, 15⟩] false) (.seq (.region [⟨some 6, .assign (.val (.int .i64 0)), none, 0⟩] false) (.block 2 (some [0, 3, 7, 8, 9]) (.loop (some [0, 3, 6, 7, 8, 9]) (.seq (.seq (.region [⟨some 17, .move (.tmp 6), none, 0⟩, ⟨some 18, .bin (.lss) (.tmp 17) (.val (.int .i64 8)), none, 1⟩] false) (.cond (.tmp 18) (.skip) (.exit 2))) (.seq (.block 3 none (.region [⟨some 21, .move (.tmp 3), none, 0⟩, ⟨some 22, .call true 56 0 [(.tmp 21)], none, 1⟩, ⟨some 3, .assign (.tmp 22), none, 3⟩] false)) (.region [⟨some 19, .move (.tmp 6), none, 0⟩, ⟨some 20, .bin (.add) (.tmp 19) (.val (.int .i64 1)), none, 1⟩, ⟨some 6, .assign (.tmp 20), none, 3⟩] false))))))))) (.region [⟨some 23, .bin (.add) (.tmp 9) (.val (.int .i64 1)), none, 0⟩, ⟨some 9, .move (.tmp 23), none, 1⟩] false))))))) (.seq (.region [⟨some 24, .move (.tmp 3), none, 0⟩, ⟨some 25, .bin (.sub) (.val (.int .u64 4294967295)) (.tmp 24), none, 1⟩, ⟨some 26, .conv (.int (.u32)) (.tmp 25), none, 3⟩, ⟨some 2, .assign (.tmp 26), none, 7⟩] false) (.ret))))
abbrev v51 : VFunc := { nparams := 1, ntmps := 27, nsites := 0, results := [.tmp 2], body := b51 }
/-! ### numbers -/
theorem wrapi64 (n : Int) (h1 : -9223372036854775808 ≤ n) (h2 : n < 9223372036854775808) : IntKind.i64.wrap n = n := by
  simp only [IntKind.wrap, IntKind.bits, IntKind.signed]; simp; omega
theorem inc64 (i : Nat) (h : i < 4611686018427387904) : IntKind.i64.wrap ((i : Int) + 1) = ((i + 1 : Nat) : Int) := by
  rw [wrapi64 _ (by omega) (by omega)]; rfl
theorem xorN {w : Nat} (A B : Nat) (hA : A < 2 ^ w) (hB : B < 2 ^ w) : (BitVec.ofInt w (A : Int) ^^^ BitVec.ofInt w (B : Int)).toNat = A ^^^ B := by
  simp only [BitVec.ofInt_natCast, BitVec.toNat_xor, BitVec.toNat_ofNat, Nat.mod_eq_of_lt hA, Nat.mod_eq_of_lt hB]
theorem andN {w : Nat} (A B : Nat) (hA : A < 2 ^ w) (hB : B < 2 ^ w) : (BitVec.ofInt w (A : Int) &&& BitVec.ofInt w (B : Int)).toNat = A &&& B := by
  simp only [BitVec.ofInt_natCast, BitVec.toNat_and, BitVec.toNat_ofNat, Nat.mod_eq_of_lt hA, Nat.mod_eq_of_lt hB]
theorem orN {w : Nat} (A B : Nat) (hA : A < 2 ^ w) (hB : B < 2 ^ w) : (BitVec.ofInt w (A : Int) ||| BitVec.ofInt w (B : Int)).toNat = A ||| B := by
  simp only [BitVec.ofInt_natCast, BitVec.toNat_or, BitVec.toNat_ofNat, Nat.mod_eq_of_lt hA, Nat.mod_eq_of_lt hB]
theorem wrap8 (n : Nat) (h : n < 256) : IntKind.u8.wrap (n : Int) = n := by
  simp only [IntKind.wrap, IntKind.bits, IntKind.signed]; simp; omega
theorem wrap32 (n : Nat) (h : n < 2 ^ 32) : IntKind.u32.wrap (n : Int) = n := by
  simp only [IntKind.wrap, IntKind.bits, IntKind.signed]; simp; omega
theorem wrap64 (n : Nat) (h : n < 2 ^ 64) : IntKind.u64.wrap (n : Int) = n := by
  simp only [IntKind.wrap, IntKind.bits, IntKind.signed]; simp; omega
def poly : Nat := 2197175160
/-- One halving on. -/
def stepN (n : Nat) : Nat := if n % 2 = 1 then (n / 2) ^^^ poly else n / 2
theorem stepN_lt (n : Nat) (h : n < 2 ^ 32) : stepN n < 2 ^ 32 := by
  unfold stepN
  split
  · exact Nat.xor_lt_two_pow (by omega) (by decide)
  · omega
def halN : Nat → Nat → Nat
  | 0, n => n
  | k + 1, n => halN k (stepN n)
theorem halN_lt : ∀ (k n : Nat), n < 2 ^ 32 → halN k n < 2 ^ 32
  | 0, n, h => h
  | k + 1, n, h => halN_lt k _ (stepN_lt n h)
def onB (n : Nat) (x : Nat) : Nat := halN 8 (n ^^^ x)
theorem onB_lt (n x : Nat) (h : n < 2 ^ 32) (hx : x < 256) : onB n x < 2 ^ 32 := halN_lt _ _ (Nat.xor_lt_two_pow h (by omega))
def crcN (n : Nat) (l : List Nat) : Nat := l.foldl onB n
theorem crcN_lt : ∀ (l : List Nat) (n : Nat), n < 2 ^ 32 → (∀ x ∈ l, x < 256) → crcN n l < 2 ^ 32
  | [], n, h, _ => h
  | x :: l, n, h, hl => crcN_lt l _ (onB_lt n x h (hl x (by simp))) fun y hy => hl y (by simp [hy])
def crc (l : List Nat) : Nat := 4294967295 - crcN 4294967295 l
def x55 (n : Int) : Int := IntKind.u32.wrap (BitVec.ofInt 32 (n.fdiv (2 ^ 1)) ^^^ BitVec.ofInt 32 (IntKind.u32.wrap (BitVec.ofInt 32 2197175160 &&& BitVec.ofInt 32 (IntKind.u32.wrap (0 - IntKind.u32.wrap (BitVec.ofInt 32 n &&& BitVec.ofInt 32 1).toNat))).toNat)).toNat
theorem x55_eq (n : Nat) (h : n < 2 ^ 32) : x55 n = stepN n := by
  have e1 : (n : Int).fdiv (2 ^ 1) = ((n / 2 : Nat) : Int) := by rw [Int.fdiv_eq_ediv_of_nonneg _ (by decide)]; rfl
  have e2 : (BitVec.ofInt 32 (n : Int) &&& BitVec.ofInt 32 1).toNat = n % 2 := by
    rw [show (1 : Int) = ((1 : Nat) : Int) from rfl, andN n 1 h (by decide), Nat.and_one_is_mod]
  unfold x55 stepN
  rw [e1, e2]
  rcases Nat.mod_two_eq_zero_or_one n with h0 | h0
  · have e3 : (BitVec.ofInt 32 2197175160 &&& BitVec.ofInt 32 (IntKind.u32.wrap (0 - IntKind.u32.wrap ((0 : Nat) : Int)))).toNat = 0 := by decide
    rw [h0, e3, if_neg (by decide), wrap32 0 (by decide), xorN _ _ (by omega) (by decide), Nat.xor_zero, wrap32 _ (by omega)]
  · have e3 : (BitVec.ofInt 32 2197175160 &&& BitVec.ofInt 32 (IntKind.u32.wrap (0 - IntKind.u32.wrap ((1 : Nat) : Int)))).toNat = poly := by decide
    rw [h0, e3, if_pos rfl, wrap32 poly (by decide), xorN _ _ (by omega) (by decide), wrap32 _ (Nat.xor_lt_two_pow (by omega) (by decide))]
section
variable (G : VProg)
theorem halves (hG : G 55 = some (.code v55)) (n : Nat) (hn : n < 2 ^ 32) : lim G 55 [.int .u32 n, .int .i64 8] [] = some (.int .u32 (halN 8 n : Nat), []) := by
  refine lim_fun hG (h := runV trivial trivial ?_)
  refine WL_loop (fun a : Nat × Nat => ⟨(.int .u32 (a.2 : Nat) :: .int .i64 8 :: .gone 0 :: .gone 0 :: .gone 0 :: .int .i64 8 :: .int .i64 (a.1 : Nat) :: .gone 0 :: .gone 0 :: .gone 0 :: .gone 0 :: .gone 0 :: .gone 0 :: .gone 0 :: .gone 0 :: .gone 0 :: .gone 0 :: []), []⟩) (fun a => a.1 ≤ 8 ∧ a.2 < 2 ^ 32 ∧ halN (8 - a.1) a.2 = halN 8 n) (fun a => 8 - a.1) ?_ (0, n) _ ⟨by omega, hn, rfl⟩ (by kernel_rfl)
  rintro ⟨i, x⟩ ⟨hi, hx, hh⟩
  simp only at hi hx hh ⊢
  by_cases h : i < 8
  · have hlt : decide ((i : Int) < 8) = true := by simp; omega
    have hadd := inc64 i (by omega)
    have e : 8 - i = 8 - (i + 1) + 1 := by omega
    rw [e] at hh
    refine runV (And.intro hlt hadd) trivial ?_
    refine Qr_n (i + 1, stepN x) ?_ ⟨⟨by simp only; omega, stepN_lt x hx, hh⟩, by simp only; omega⟩
    simp only [← x55_eq x hx]
    kernel_rfl
  · obtain rfl : i = 8 := by omega
    have hlt : decide (((8 : Nat) : Int) < 8) = false := by decide
    simp only [Nat.sub_self, halN] at hh
    subst hh
    refine runV hlt trivial ?_
    refine Qr_x ?_
    refine Qb_x (σ1 := ⟨(.int .u32 (halN 8 n : Nat) :: .gone 0 :: .gone 0 :: .gone 0 :: .gone 0 :: .gone 0 :: .gone 0 :: .gone 0 :: .gone 0 :: .gone 0 :: .gone 0 :: .gone 0 :: .gone 0 :: .gone 0 :: .gone 0 :: .gone 0 :: .gone 0 :: []), []⟩) (by kernel_rfl) ?_
    exact runV trivial trivial trivial
theorem step (hG : G 56 = some (.code v56)) (n : Nat) (hn : n < 2 ^ 32) : lim G 56 [.int .u64 n] [] = some (.int .u64 (stepN n : Nat), []) := by
  have e1 : IntKind.u64.wrap ((n : Int).tdiv 2) = ((n / 2 : Nat) : Int) := by
    rw [Int.tdiv_eq_ediv_of_nonneg (by omega)]
    exact wrap64 (n / 2) (by omega)
  have e4 : IntKind.u64.wrap (BitVec.ofInt IntKind.u64.bits ((n / 2 : Nat) : Int) ^^^ BitVec.ofInt IntKind.u64.bits 2197175160).toNat = ((n / 2) ^^^ poly : Nat) := by
    show IntKind.u64.wrap (BitVec.ofInt 64 ((n / 2 : Nat) : Int) ^^^ BitVec.ofInt 64 2197175160).toNat = _
    rw [show (2197175160 : Int) = ((poly : Nat) : Int) from rfl, xorN _ _ (by omega) (by decide), wrap64 _ (by
      have := Nat.xor_lt_two_pow (n := 32) (show n / 2 < 2 ^ 32 by omega) (show poly < 2 ^ 32 by decide)
      omega)]
  have e5 : (n : Int).tmod 2 = ((n % 2 : Nat) : Int) := by rw [Int.tmod_eq_emod_of_nonneg (by omega)]; rfl
  by_cases h : n % 2 = 1
  · have hs : stepN n = (n / 2) ^^^ poly := by unfold stepN; rw [if_pos h]
    have hc : ((n : Int).tmod 2 == 1) = true := by rw [e5, h]; rfl
    rw [hs]
    exact lim_fun hG (h := runV (And.intro hc (And.intro e1 e4)) trivial trivial)
  · have hs : stepN n = n / 2 := by unfold stepN; rw [if_neg h]
    have hc : ((n : Int).tmod 2 == 1) = false := by
      have : n % 2 = 0 := by omega
      rw [e5, this]; rfl
    rw [hs]
    exact lim_fun hG (h := runV (And.intro hc (And.intro e1 e4)) trivial trivial)
theorem byN_get (l : List Nat) (i : Nat) (h : i < l.length) : (byN l)[i]? = some (.int .u8 (l[i] : Nat)) := by simp [byN, h]
theorem not32 (n : Nat) (hn : n < 2 ^ 32) : IntKind.u32.wrap (BitVec.ofInt 32 IntKind.u32.max ^^^ BitVec.ofInt 32 (n : Int)).toNat = ((4294967295 - n : Nat) : Int) := by
  rw [show (IntKind.u32.max : Int) = ((4294967295 : Nat) : Int) from rfl]
  have e : (BitVec.ofInt 32 ((4294967295 : Nat) : Int) ^^^ BitVec.ofInt 32 (n : Int)).toNat = 4294967295 - n := by
    simp only [BitVec.ofInt_natCast]
    have h1 : BitVec.ofNat 32 4294967295 = BitVec.allOnes 32 := by decide
    rw [h1, BitVec.allOnes_xor, BitVec.toNat_not, BitVec.toNat_ofNat, Nat.mod_eq_of_lt hn]
  rw [e, wrap32 _ (by omega)]
theorem crcN_at (l : List Nat) (n i : Nat) (h : i < l.length) : crcN n (l.drop i) = crcN (onB n l[i]) (l.drop (i + 1)) := by rw [List.drop_eq_getElem_cons h]; rfl
/-- check.Of, of one piece. -/
theorem of1 (hG : G 49 = some (.code v49)) (h55 : ∀ n : Nat, n < 2 ^ 32 → lim G 55 [.int .u32 n, .int .i64 8] [] = some (.int .u32 (halN 8 n : Nat), []))
    (l : List Nat) (hl : l.length < 2 ^ 40) (hb : ∀ x ∈ l, x < 256) : lim G 49 [.isl 0 1 [.isl 0 1 (byN l)]] [] = some (.int .u32 (crc l : Nat), []) := by
  have h0 : IntKind.u32.wrap (BitVec.ofInt IntKind.u32.bits (if IntKind.u32.signed = true then -1 else IntKind.u32.max) ^^^ BitVec.ofInt IntKind.u32.bits 0).toNat = ((4294967295 : Nat) : Int) := by decide
  refine lim_fun hG (h := runV h0 trivial ?_)
  refine WL_unroll (σ1 := ⟨(.isl 0 1 [.isl 0 1 (byN l)] :: .gone 0 :: .gone 0 :: .int .u32 4294967295 :: .gone 0 :: .gone 0 :: .gone 0 :: .gone 0 :: .isl 0 1 [.isl 0 1 (byN l)] :: .int .i64 (1 : Nat) :: .int .i64 0 :: .gone 0 :: .gone 0 :: .gone 0 :: .gone 0 :: .gone 0 :: .gone 0 :: .gone 0 :: .gone 0 :: .gone 0 :: .gone 0 :: .gone 0 :: .gone 0 :: .gone 0 :: .gone 0 :: .gone 0 :: .gone 0 :: .gone 0 :: .gone 0 :: []), []⟩) (by kernel_rfl) ?_
  refine runV trivial trivial ?_
  refine WL_loop (fun a : Nat × Nat => ⟨(.isl 0 1 [.isl 0 1 (byN l)] :: .gone 0 :: .gone 0 :: .int .u32 (a.2 : Nat) :: .gone 0 :: .isl 0 1 (byN l) :: .gone 0 :: .gone 0 :: .isl 0 1 [.isl 0 1 (byN l)] :: .int .i64 (1 : Nat) :: .int .i64 0 :: .gone 0 :: .iptr [.isl 0 1 (byN l)] :: .isl 0 1 (byN l) :: .isl 0 1 (byN l) :: .int .i64 l.length :: .int .i64 (a.1 : Nat) :: .gone 0 :: .gone 0 :: .gone 0 :: .gone 0 :: .gone 0 :: .gone 0 :: .gone 0 :: .gone 0 :: .gone 0 :: .gone 0 :: .gone 0 :: .gone 0 :: []), []⟩)
    (fun a => a.1 ≤ l.length ∧ a.2 < 2 ^ 32 ∧ crcN a.2 (l.drop a.1) = crcN 4294967295 l) (fun a => l.length - a.1) ?_ (0, 4294967295) _ ⟨by omega, by decide, rfl⟩ (by kernel_rfl)
  rintro ⟨i, x⟩ ⟨hi, hx, hh⟩
  simp only at hi hx hh ⊢
  by_cases h : i < l.length
  · have hlt : decide ((i : Int) < (l.length : Int)) = true := by simp; omega
    have hadd := inc64 i (by omega)
    have hg := byN_get l i h
    have hbi := hb _ (List.getElem_mem h)
    have hw : IntKind.u32.wrap (BitVec.ofInt IntKind.u32.bits (x : Int) ^^^ BitVec.ofInt IntKind.u32.bits (IntKind.u32.wrap ((l[i] : Nat) : Int))).toNat = ((x ^^^ l[i] : Nat) : Int) := by
      show IntKind.u32.wrap (BitVec.ofInt 32 (x : Int) ^^^ BitVec.ofInt 32 (IntKind.u32.wrap ((l[i] : Nat) : Int))).toNat = _
      rw [wrap32 l[i] (by omega), xorN _ _ hx (by omega), wrap32 _ (Nat.xor_lt_two_pow hx (by omega))]
    have hc := h55 (x ^^^ l[i]) (Nat.xor_lt_two_pow hx (by omega))
    rw [crcN_at l x i h] at hh
    refine runV (And.intro hlt (And.intro hadd (And.intro hg hw))) trivial ?_
    exact Qr_n (i + 1, onB x l[i]) (by kernel_rfl) ⟨⟨by simp only; omega, onB_lt x l[i] hx hbi, hh⟩, by simp only; omega⟩
  · obtain rfl : i = l.length := by omega
    have hlt : decide ((l.length : Int) < (l.length : Int)) = false := by simp
    rw [List.drop_length] at hh
    have hhx : x = crcN 4294967295 l := hh
    subst hhx
    refine runV hlt trivial ?_
    refine Qr_x ?_
    refine Qb_x (σ1 := ⟨(.isl 0 1 [.isl 0 1 (byN l)] :: .gone 0 :: .gone 0 :: .int .u32 (crcN 4294967295 l : Nat) :: .gone 0 :: .gone 0 :: .gone 0 :: .gone 0 :: .isl 0 1 [.isl 0 1 (byN l)] :: .int .i64 (1 : Nat) :: .int .i64 0 :: .gone 0 :: .gone 0 :: .gone 0 :: .gone 0 :: .gone 0 :: .gone 0 :: .gone 0 :: .gone 0 :: .gone 0 :: .gone 0 :: .gone 0 :: .gone 0 :: .gone 0 :: .gone 0 :: .gone 0 :: .gone 0 :: .gone 0 :: .gone 0 :: []), []⟩) (by kernel_rfl) ?_
    refine Qb_n (σ1 := ⟨(.isl 0 1 [.isl 0 1 (byN l)] :: .gone 0 :: .gone 0 :: .int .u32 (crcN 4294967295 l : Nat) :: .gone 0 :: .gone 0 :: .gone 0 :: .gone 0 :: .isl 0 1 [.isl 0 1 (byN l)] :: .int .i64 (1 : Nat) :: .int .i64 0 :: .gone 0 :: .gone 0 :: .gone 0 :: .gone 0 :: .gone 0 :: .gone 0 :: .gone 0 :: .gone 0 :: .gone 0 :: .gone 0 :: .gone 0 :: .gone 0 :: .gone 0 :: .gone 0 :: .gone 0 :: .gone 0 :: .gone 0 :: .gone 0 :: []), []⟩) (by kernel_rfl) ?_
    have e1 : IntKind.i64.wrap (0 + 1) = ((1 : Nat) : Int) := by decide
    have hlt1 : decide (((1 : Nat) : Int) < ((1 : Nat) : Int)) = false := by decide
    refine runV e1 trivial ?_
    refine Qu_n ?_
    refine WL_unroll (σ1 := ⟨(.isl 0 1 [.isl 0 1 (byN l)] :: .gone 0 :: .gone 0 :: .int .u32 (crcN 4294967295 l : Nat) :: .gone 0 :: .gone 0 :: .gone 0 :: .gone 0 :: .isl 0 1 [.isl 0 1 (byN l)] :: .int .i64 (1 : Nat) :: .int .i64 (1 : Nat) :: .gone 0 :: .gone 0 :: .gone 0 :: .gone 0 :: .gone 0 :: .gone 0 :: .gone 0 :: .gone 0 :: .gone 0 :: .gone 0 :: .gone 0 :: .gone 0 :: .gone 0 :: .gone 0 :: .gone 0 :: .gone 0 :: .gone 0 :: .gone 0 :: []), []⟩) (by kernel_rfl) ?_
    refine runV hlt1 trivial ?_
    refine Qu_x ?_
    refine Qb_x (σ1 := ⟨(.gone 0 :: .gone 0 :: .gone 0 :: .int .u32 (crcN 4294967295 l : Nat) :: .gone 0 :: .gone 0 :: .gone 0 :: .gone 0 :: .gone 0 :: .gone 0 :: .gone 0 :: .gone 0 :: .gone 0 :: .gone 0 :: .gone 0 :: .gone 0 :: .gone 0 :: .gone 0 :: .gone 0 :: .gone 0 :: .gone 0 :: .gone 0 :: .gone 0 :: .gone 0 :: .gone 0 :: .gone 0 :: .gone 0 :: .gone 0 :: .gone 0 :: []), []⟩) (by kernel_rfl) ?_
    have hn : IntKind.u32.wrap (BitVec.ofInt IntKind.u32.bits (if IntKind.u32.signed = true then -1 else IntKind.u32.max) ^^^ BitVec.ofInt IntKind.u32.bits ((crcN 4294967295 l : Nat) : Int)).toNat = ((crc l : Nat) : Int) := not32 _ hx
    exact runV hn trivial trivial
end
end P1
end Go.Vq

namespace Go.Vq
namespace P1
open Go
set_option maxRecDepth 1000000
set_option maxHeartbeats 4000000
abbrev b52 : VCode := .seq (.region [⟨some 4, .assign (.val (.int .u64 0)), none, 0⟩, ⟨some 5, .assign (.val (.int .i64 0)), none, 1⟩] false) (.seq (.region [⟨some 6, .assign (.val (.int .u64 0)), none, 0⟩] false) (.seq (.seq (.region [⟨some 10, .move (.tmp 0), none, 0⟩, ⟨some 11, .len (.slc 1) (.tmp 10), none, 1⟩, ⟨some 12, .move (.val (.int .i64 0)), none, 0⟩] false) (.block 0 (some []) (.loop (some [0, 1, 6, 10, 11, 12]) (.seq (.region [⟨some 13, .bin (.lss) (.tmp 12) (.tmp 11), none, 0⟩] false) (.seq (.cond (.tmp 13) (.skip) (.exit 0)) (.seq (.block 1 none (.seq (.region [⟨some 14, .move (.tmp 12), none, 0⟩, ⟨some 15, .indexAddr none 1 (.tmp 10) (.tmp 12), none, 0⟩, ⟨some 16, .load false 1 (.tmp 15), none, 2⟩, ⟨some 7, .assign (.tmp 14), none, 7⟩, ⟨some 8, .assign (.tmp 16), none, 15⟩] false) (.seq (.region [⟨some 17, .move (.tmp 8), none, 0⟩, ⟨some 18, .bin (.and) (.tmp 17) (.val (.int .u8 127)), none, 1⟩, ⟨some 19, .conv (.int (.u64)) (.tmp 18), none, 3⟩, ⟨some 9, .assign (.tmp 19), none, 7⟩] false) (.seq (.seq (.region [⟨some 20, .move (.tmp 7), none, 0⟩, ⟨some 21, .eq false (.num) (.tmp 20) (.val (.int .i64 9)), none, 1⟩, ⟨some 22, .move (.tmp 21), none, 3⟩, ⟨some 23, .move (.tmp 8), some (22, true), 7⟩, ⟨some 24, .bin (.gtr) (.tmp 23) (.val (.int .u8 1)), some (22, true), 15⟩, ⟨some 25, .pick (.tmp 22) (.tmp 24) (.val (.bool false)), none, 31⟩, ⟨some 26, .move (.tmp 25), none, 63⟩, ⟨some 27, .move (.tmp 7), some (26, false), 127⟩, ⟨some 28, .bin (.gtr) (.tmp 27) (.val (.int .i64 0)), some (26, false), 255⟩, ⟨some 29, .move (.tmp 28), some (26, false), 511⟩, ⟨some 30, .move (.tmp 8), some (29, true), 1023⟩, ⟨some 31, .eq false (.num) (.tmp 30) (.val (.int .u8 0)), some (29, true), 2047⟩, ⟨some 32, .pick (.tmp 29) (.tmp 31) (.val (.bool false)), some (26, false), 4095⟩, ⟨some 33, .pick (.tmp 26) (.val (.bool true)) (.tmp 32), none, 8191⟩, ⟨some 34, .move (.tmp 33), none, 16383⟩, ⟨some 35, .move (.tmp 9), some (34, false), 32767⟩, ⟨some 36, .move (.tmp 1), some (34, false), 32767⟩, ⟨some 37, .move (.tmp 7), some (34, false), 32767⟩, ⟨some 38, .bin (.mul) (.val (.int .i64 7)) (.tmp 37), some (34, false), 163839⟩, ⟨some 39, .bin (.shr) (.tmp 36) (.tmp 38), some (34, false), 491519⟩, ⟨some 40, .bin (.gtr) (.tmp 35) (.tmp 39), some (34, false), 1048575⟩, ⟨some 41, .pick (.tmp 34) (.val (.bool true)) (.tmp 40), none, 2097151⟩] false) (.cond (.tmp 41) (.seq (.region [⟨some 4, .assign (.val (.int .u64 0)), none, 0⟩, ⟨some 5, .assign (.val (.int .i64 (-1))), none, 1⟩] false) (.ret)) (.skip))) (.seq (.region [⟨some 42, .move (.tmp 6), none, 0⟩, ⟨some 43, .move (.tmp 9), none, 0⟩, ⟨some 44, .move (.tmp 7), none, 0⟩, ⟨some 45, .bin (.mul) (.val (.int .i64 7)) (.tmp 44), none, 4⟩, ⟨some 46, .bin (.shl) (.tmp 43) (.tmp 45), none, 14⟩, ⟨some 47, .bin (.or) (.tmp 42) (.tmp 46), none, 31⟩, ⟨some 6, .assign (.tmp 47), none, 63⟩] false) (.seq (.seq (.region [⟨some 48, .move (.tmp 6), none, 0⟩, ⟨some 49, .move (.tmp 1), none, 0⟩, ⟨some 50, .bin (.gtr) (.tmp 48) (.tmp 49), none, 3⟩] false) (.cond (.tmp 50) (.seq (.region [⟨some 4, .assign (.val (.int .u64 0)), none, 0⟩, ⟨some 5, .assign (.val (.int .i64 (-1))), none, 1⟩] false) (.ret)) (.skip))) (.seq (.seq (.region [⟨some 51, .move (.tmp 8), none, 0⟩, ⟨some 52, .bin (.lss) (.tmp 51) (.val (.int .u8 128)), none, 1⟩] false) (.cond (.tmp 52) (.seq (.region [⟨some 53, .move (.tmp 6), none, 0⟩, ⟨some 54, .move (.tmp 7), none, 0⟩, ⟨some 55, .bin (.add) (.tmp 54) (.val (.int .i64 1)), none, 2⟩, ⟨some 4, .assign (.tmp 53), none, 1⟩, ⟨some 5, .assign (.tmp 55), none, 15⟩] false) (.ret)) (.skip))) (.seq (.region [⟨some 56, .move (.tmp 1), none, 0⟩, ⟨some 57, .move (.tmp 6), none, 0⟩, ⟨some 58, .bin (.sub) (.tmp 56) (.tmp 57), none, 3⟩, ⟨some 59, .move (.tmp 7), none, 0⟩, ⟨some 60, .bin (.add) (.tmp 59) (.val (.int .i64 1)), none, 8⟩, ⟨some 61, .bin (.mul) (.val (.int .i64 7)) (.tmp 60), none, 24⟩, ⟨some 62, .bin (.shl) (.val (.int .u64 1)) (.tmp 61), none, 56⟩, ⟨some 63, .bin (.lss) (.tmp 58) (.tmp 62), none, 127⟩] false) (.cond (.tmp 63) (.seq (.region [⟨some 4, .assign (.val (.int .u64 0)), none, 0⟩, ⟨some 5, .assign (.val (.int .i64 (-1))), none, 1⟩] false) (.ret)) (.skip)))))))))) (.region [⟨some 64, .bin (.add) (.tmp 12) (.val (.int .i64 1)), none, 0⟩, ⟨some 12, .move (.tmp 64), none, 1⟩] false))))))) (.seq (.region [⟨some 4, .assign (.val (.int .u64 0)), none, 0⟩, ⟨some 5, .assign (.val (.int .i64 0)), none, 1⟩] false) (.ret))))
abbrev v52 : VFunc := { nparams := 2, ntmps := 65, nsites := 0, results := [.tmp 4, .tmp 5], body := b52 }
abbrev b42 : VCode := .seq (.region [⟨some 4, .assign (.val (.int .u64 0)), none, 0⟩, ⟨some 5, .assign (.val (.int .i64 0)), none, 1⟩] false) (.seq (.region [⟨some 6, .assign (.val (.int .u64 0)), none, 0⟩, ⟨some 7, .assign (.val (.int .u64 1)), none, 1⟩] false) (.seq (.seq (.region [⟨some 8, .assign (.val (.int .i64 0)), none, 0⟩] false) (.block 0 (some []) (.loop (some [0, 1, 6, 7, 8]) (.seq (.seq (.region [⟨some 10, .move (.tmp 8), none, 0⟩, ⟨some 11, .move (.tmp 0), none, 0⟩, ⟨some 12, .len (.slc 1) (.tmp 11), none, 2⟩, ⟨some 13, .bin (.lss) (.tmp 10) (.tmp 12), none, 7⟩] false) (.cond (.tmp 13) (.skip) (.exit 0))) (.seq (.block 1 none (.seq (.region [⟨some 16, .move (.tmp 0), none, 0⟩, ⟨some 17, .move (.tmp 8), none, 0⟩, ⟨some 18, .indexAddr none 1 (.tmp 16) (.tmp 17), none, 3⟩, ⟨some 19, .load false 1 (.tmp 18), none, 7⟩, ⟨some 20, .bin (.rem) (.tmp 19) (.val (.int .u8 128)), none, 15⟩, ⟨some 21, .conv (.int (.u64)) (.tmp 20), none, 31⟩, ⟨some 9, .assign (.tmp 21), none, 63⟩] false) (.seq (.seq (.region [⟨some 22, .move (.tmp 8), none, 0⟩, ⟨some 23, .eq false (.num) (.tmp 22) (.val (.int .i64 9)), none, 1⟩, ⟨some 24, .move (.tmp 23), none, 3⟩, ⟨some 25, .move (.tmp 0), some (24, true), 7⟩, ⟨some 26, .move (.tmp 8), some (24, true), 7⟩, ⟨some 27, .indexAddr none 1 (.tmp 25) (.tmp 26), some (24, true), 31⟩, ⟨some 28, .load false 1 (.tmp 27), some (24, true), 63⟩, ⟨some 29, .bin (.gtr) (.tmp 28) (.val (.int .u8 1)), some (24, true), 127⟩, ⟨some 30, .pick (.tmp 24) (.tmp 29) (.val (.bool false)), none, 255⟩, ⟨some 31, .move (.tmp 30), none, 511⟩, ⟨some 32, .move (.tmp 8), some (31, false), 1023⟩, ⟨some 33, .bin (.gtr) (.tmp 32) (.val (.int .i64 9)), some (31, false), 2047⟩, ⟨some 34, .pick (.tmp 31) (.val (.bool true)) (.tmp 33), none, 4095⟩, ⟨some 35, .move (.tmp 34), none, 8191⟩, ⟨some 36, .move (.tmp 0), some (35, false), 16383⟩, ⟨some 37, .move (.tmp 8), some (35, false), 16383⟩, ⟨some 38, .indexAddr none 1 (.tmp 36) (.tmp 37), some (35, false), 65535⟩, ⟨some 39, .load false 1 (.tmp 38), some (35, false), 131071⟩, ⟨some 40, .eq false (.num) (.tmp 39) (.val (.int .u8 0)), some (35, false), 262143⟩, ⟨some 41, .move (.tmp 40), some (35, false), 524287⟩, ⟨some 42, .move (.tmp 8), some (41, true), 1048575⟩, ⟨some 43, .bin (.gtr) (.tmp 42) (.val (.int .i64 0)), some (41, true), 2097151⟩, ⟨some 44, .pick (.tmp 41) (.tmp 43) (.val (.bool false)), some (35, false), 4194303⟩, ⟨some 45, .pick (.tmp 35) (.val (.bool true)) (.tmp 44), none, 8388607⟩] false) (.cond (.tmp 45) (.seq (.region [⟨some 4, .assign (.val (.int .u64 0)), none, 0⟩, ⟨some 5, .assign (.val (.int .i64 (-1))), none, 1⟩] false) (.ret)) (.skip))) (.seq (.region [⟨some 46, .move (.tmp 6), none, 0⟩, ⟨some 47, .move (.tmp 9), none, 0⟩, ⟨some 48, .move (.tmp 7), none, 0⟩, ⟨some 49, .bin (.mul) (.tmp 47) (.tmp 48), none, 6⟩, ⟨some 50, .bin (.add) (.tmp 46) (.tmp 49), none, 15⟩, ⟨some 6, .assign (.tmp 50), none, 31⟩] false) (.seq (.seq (.region [⟨some 51, .move (.tmp 6), none, 0⟩, ⟨some 52, .move (.tmp 1), none, 0⟩, ⟨some 53, .bin (.gtr) (.tmp 51) (.tmp 52), none, 3⟩] false) (.cond (.tmp 53) (.seq (.region [⟨some 4, .assign (.val (.int .u64 0)), none, 0⟩, ⟨some 5, .assign (.val (.int .i64 (-1))), none, 1⟩] false) (.ret)) (.skip))) (.seq (.seq (.region [⟨some 54, .move (.tmp 0), none, 0⟩, ⟨some 55, .move (.tmp 8), none, 0⟩, ⟨some 56, .indexAddr none 1 (.tmp 54) (.tmp 55), none, 3⟩, ⟨some 57, .load false 1 (.tmp 56), none, 7⟩, ⟨some 58, .bin (.lss) (.tmp 57) (.val (.int .u8 128)), none, 15⟩] false) (.cond (.tmp 58) (.seq (.region [⟨some 59, .move (.tmp 6), none, 0⟩, ⟨some 60, .move (.tmp 8), none, 0⟩, ⟨some 61, .bin (.add) (.tmp 60) (.val (.int .i64 1)), none, 2⟩, ⟨some 4, .assign (.tmp 59), none, 1⟩, ⟨some 5, .assign (.tmp 61), none, 15⟩] false) (.ret)) (.skip))) (.seq (.seq (.region [⟨some 62, .move (.tmp 1), none, 0⟩, ⟨some 63, .move (.tmp 6), none, 0⟩, ⟨some 64, .bin (.sub) (.tmp 62) (.tmp 63), none, 3⟩, ⟨some 65, .move (.tmp 7), none, 0⟩, ⟨some 66, .bin (.mul) (.tmp 65) (.val (.int .u64 128)), none, 8⟩, ⟨some 67, .bin (.lss) (.tmp 64) (.tmp 66), none, 31⟩] false) (.cond (.tmp 67) (.seq (.region [⟨some 4, .assign (.val (.int .u64 0)), none, 0⟩, ⟨some 5, .assign (.val (.int .i64 (-1))), none, 1⟩] false) (.ret)) (.skip))) (.region [⟨some 68, .move (.tmp 7), none, 0⟩, ⟨some 69, .bin (.mul) (.tmp 68) (.val (.int .u64 128)), none, 1⟩, ⟨some 7, .assign (.tmp 69), none, 3⟩] false)))))))) (.region [⟨some 14, .move (.tmp 8), none, 0⟩, ⟨some 15, .bin (.add) (.tmp 14) (.val (.int .i64 1)), none, 1⟩, ⟨some 8, .assign (.tmp 15), none, 3⟩] false)))))) (.seq (.region [⟨some 4, .assign (.val (.int .u64 0)), none, 0⟩, ⟨some 5, .assign (.val (.int .i64 0)), none, 1⟩] false) (.ret))))
abbrev v42 : VFunc := { nparams := 2, ntmps := 70, nsites := 0, results := [.tmp 4, .tmp 5], body := b42 }
/-- The number at the beginning of bytes, by definition. -/
def dec (lim : Nat) : Nat → Nat → List Nat → Int × Int
  | _, _, [] => (0, 0)
  | i, n, x :: r =>
    if (i = 9 ∧ 1 < x) ∨ (0 < i ∧ x = 0) ∨ lim < n + x % 128 * 2 ^ (7 * i) then (0, -1)
    else if x < 128 then (((n + x % 128 * 2 ^ (7 * i) : Nat) : Int), ((i + 1 : Nat) : Int))
    else if lim - (n + x % 128 * 2 ^ (7 * i)) < 2 ^ (7 * (i + 1)) then (0, -1)
    else dec lim (i + 1) (n + x % 128 * 2 ^ (7 * i)) r
theorem dec_cons (lim i n x : Nat) (r : List Nat) : dec lim i n (x :: r) = if (i = 9 ∧ 1 < x) ∨ (0 < i ∧ x = 0) ∨ lim < n + x % 128 * 2 ^ (7 * i) then (0, -1)
    else if x < 128 then (((n + x % 128 * 2 ^ (7 * i) : Nat) : Int), ((i + 1 : Nat) : Int))
    else if lim - (n + x % 128 * 2 ^ (7 * i)) < 2 ^ (7 * (i + 1)) then (0, -1)
    else dec lim (i + 1) (n + x % 128 * 2 ^ (7 * i)) r := by rw [dec]
theorem and127 (x : Nat) (hx : x < 256) : IntKind.u8.wrap (BitVec.ofInt IntKind.u8.bits (x : Int) &&& BitVec.ofInt IntKind.u8.bits 127).toNat = ((x % 128 : Nat) : Int) := by
  have e : (BitVec.ofInt 8 (x : Int) &&& BitVec.ofInt 8 127).toNat = x % 128 := by
    rw [show (127 : Int) = ((127 : Nat) : Int) from rfl, andN x 127 hx (by decide)]
    exact Nat.and_two_pow_sub_one_eq_mod x 7
  have : IntKind.u8.wrap (((BitVec.ofInt 8 (x : Int) &&& BitVec.ofInt 8 127).toNat : Nat) : Int) = ((x % 128 : Nat) : Int) := by
    rw [e, wrap8]; omega
  exact this
theorem pow_cast (i : Nat) (hi : 7 * i ≤ 64) : (2 : Int) ^ min (7 * i) IntKind.u64.bits = ((2 ^ (7 * i) : Nat) : Int) := by
  have e : min (7 * i) IntKind.u64.bits = 7 * i := Nat.min_eq_left hi
  rw [e, Int.natCast_pow]
  rfl
theorem pow_lt64 {i : Nat} (hi : 7 * i ≤ 63) : 2 ^ (7 * i) < 2 ^ 64 := Nat.pow_lt_pow_right (by decide) (by omega)
theorem or64 (n p i : Nat) (hn : n < 2 ^ (7 * i)) (hs : n + p * 2 ^ (7 * i) < 2 ^ 64) : IntKind.u64.wrap (BitVec.ofInt IntKind.u64.bits (n : Int) ||| BitVec.ofInt IntKind.u64.bits ((p * 2 ^ (7 * i) : Nat) : Int)).toNat = ((n + p * 2 ^ (7 * i) : Nat) : Int) := by
  have e : (BitVec.ofInt 64 (n : Int) ||| BitVec.ofInt 64 ((p * 2 ^ (7 * i) : Nat) : Int)).toNat = n + p * 2 ^ (7 * i) := by
    rw [orN _ _ (by omega) (by omega), Nat.or_comm, Nat.mul_comm p, ← Nat.two_pow_add_eq_or_of_lt hn, Nat.add_comm]
  have : IntKind.u64.wrap (((BitVec.ofInt 64 (n : Int) ||| BitVec.ofInt 64 ((p * 2 ^ (7 * i) : Nat) : Int)).toNat : Nat) : Int) = ((n + p * 2 ^ (7 * i) : Nat) : Int) := by
    rw [e, wrap64 _ hs]
  exact this
section
variable (G : VProg)
theorem number (hG : G 52 = some (.code v52)) (l : List Nat) (lim : Nat) (hl : l.length < 2 ^ 40) (hb : ∀ x ∈ l, x < 256) (hlim : lim < 2 ^ 64) :
    Vq.lim G 52 [.isl 0 1 (byN l), .int .u64 lim] [] = some (.tup [.int .u64 (dec lim 0 0 l).1, .int .i64 (dec lim 0 0 l).2], []) := by
  refine lim_fun hG (h := runV trivial trivial ?_)
  refine WL_loop (fun a : Nat × Nat => ⟨(.isl 0 1 (byN l) :: .int .u64 lim :: .gone 0 :: .gone 0 :: .gone 0 :: .gone 0 :: .int .u64 (a.2 : Nat) :: .gone 0 :: .gone 0 :: .gone 0 :: .isl 0 1 (byN l) :: .int .i64 l.length :: .int .i64 (a.1 : Nat) :: .gone 0 :: .gone 0 :: .gone 0 :: .gone 0 :: .gone 0 :: .gone 0 :: .gone 0 :: .gone 0 :: .gone 0 :: .gone 0 :: .gone 0 :: .gone 0 :: .gone 0 :: .gone 0 :: .gone 0 :: .gone 0 :: .gone 0 :: .gone 0 :: .gone 0 :: .gone 0 :: .gone 0 :: .gone 0 :: .gone 0 :: .gone 0 :: .gone 0 :: .gone 0 :: .gone 0 :: .gone 0 :: .gone 0 :: .gone 0 :: .gone 0 :: .gone 0 :: .gone 0 :: .gone 0 :: .gone 0 :: .gone 0 :: .gone 0 :: .gone 0 :: .gone 0 :: .gone 0 :: .gone 0 :: .gone 0 :: .gone 0 :: .gone 0 :: .gone 0 :: .gone 0 :: .gone 0 :: .gone 0 :: .gone 0 :: .gone 0 :: .gone 0 :: .gone 0 :: []), []⟩)
    (fun a => a.1 ≤ l.length ∧ a.1 ≤ 9 ∧ a.2 < 2 ^ (7 * a.1) ∧ dec lim a.1 a.2 (l.drop a.1) = dec lim 0 0 l) (fun a => l.length - a.1) ?_ (0, 0) _ ⟨by omega, by omega, by simp, rfl⟩ (by kernel_rfl)
  rintro ⟨i, n⟩ ⟨hi, hi9, hn, hh⟩
  simp only at hi hi9 hn hh ⊢
  by_cases h : i < l.length
  · have hlt : decide ((i : Int) < (l.length : Int)) = true := by simp; omega
    have hadd := inc64 i (by omega)
    have hg := byN_get l i h
    have hx := hb _ (List.getElem_mem h)
    have hp := and127 l[i] hx
    have hp2 : IntKind.u64.wrap ((l[i] % 128 : Nat) : Int) = ((l[i] % 128 : Nat) : Int) := wrap64 _ (by omega)
    have h7 : IntKind.i64.wrap (7 * (i : Int)) = ((7 * i : Nat) : Int) := by rw [wrapi64 _ (by omega) (by omega)]; omega
    rw [List.drop_eq_getElem_cons h, dec_cons] at hh
    obtain ⟨x, hxd⟩ : ∃ x, x = l[i] := ⟨_, rfl⟩
    rw [← hxd] at hg hx hp hp2 hh
    clear hxd
    have hend : ∀ {r1 r2 : Int} {σ : St} {J : Nat × Nat → Prop} {S : Nat × Nat → St}, (r1, r2) = dec lim 0 0 l → finish v52 0 σ = some (.tup [.int .u64 r1, .int .i64 r2], []) → Qrnd (some [0, 1, 6, 10, 11, 12]) 0 S J (Qblk 0 0 (some []) (Qseq (Vq.lim G) (itersOf G) (limX G) 0 ((VCode.region [{ dst := some 4, op := VOp.assign (Opd.val (V.int IntKind.u64 0)), guard := none, before := 0 }, { dst := some 5, op := VOp.assign (Opd.val (V.int IntKind.i64 0)), guard := none, before := 1 }] false).seq VCode.ret) (Qend v52 0 (some (.tup [.int .u64 (dec lim 0 0 l).1, .int .i64 (dec lim 0 0 l).2], []))))) .ret σ := by
      intro r1 r2 σ J S he hf
      rw [← he]
      exact Qr_r (Qb_r (Qs_r (Qe_r hf)))
    obtain ⟨b1, c1⟩ : ∃ b, ((i : Int) == 9) = b := ⟨_, rfl⟩
    obtain ⟨b2, c2⟩ : ∃ b, decide (1 < (x : Int)) = b := ⟨_, rfl⟩
    obtain ⟨b3, c3⟩ : ∃ b, decide (0 < (i : Int)) = b := ⟨_, rfl⟩
    obtain ⟨b4, c4⟩ : ∃ b, ((x : Int) == 0) = b := ⟨_, rfl⟩
    have F := And.intro hlt (And.intro hadd (And.intro hg (And.intro hp (And.intro hp2 (And.intro h7 (And.intro c1 (And.intro c2 (And.intro c3 c4))))))))
    have c1' : b1 = true ↔ i = 9 := by rw [← c1]; simp; omega
    have c2' : b2 = true ↔ 1 < x := by rw [← c2]; simp; omega
    have c3' : b3 = true ↔ 0 < i := by rw [← c3]; simp
    have c4' : b4 = true ↔ x = 0 := by rw [← c4]; simp
    by_cases h1 : (i = 9 ∧ 1 < x) ∨ (0 < i ∧ x = 0)
    · rw [if_pos (by rcases h1 with h1 | h1; · exact .inl h1
                     · exact .inr (.inl h1))] at hh
      cases b1 <;> cases b2 <;> cases b3 <;> cases b4
      all_goals first
        | (exfalso; simp only [Bool.false_eq_true, false_iff, true_iff] at c1' c2' c3' c4'; omega)
        | (refine runV F trivial ?_; exact hend hh (by kernel_rfl))
    have hpos : 0 < 2 ^ (7 * i) := Nat.two_pow_pos _
    have hshr : (lim : Int).fdiv (2 ^ min (7 * i) IntKind.u64.bits) = ((lim / 2 ^ (7 * i) : Nat) : Int) := by
      rw [pow_cast i (by omega), Int.fdiv_eq_ediv_of_nonneg _ (by omega)]
      rfl
    by_cases h5 : lim / 2 ^ (7 * i) < x % 128
    · have : lim < x % 128 * 2 ^ (7 * i) := (Nat.div_lt_iff_lt_mul hpos).1 h5
      rw [if_pos (.inr (.inr (by omega)))] at hh
      have c5 : decide (((lim / 2 ^ (7 * i) : Nat) : Int) < ((x % 128 : Nat) : Int)) = true := decide_eq_true (Int.ofNat_lt.2 h5)
      replace F := And.intro hshr (And.intro c5 F)
      cases b1 <;> cases b2 <;> cases b3 <;> cases b4
      all_goals first
        | (exfalso; simp only [Bool.false_eq_true, false_iff, true_iff] at c1' c2' c3' c4'; omega)
        | (refine runV F trivial ?_; exact hend hh (by kernel_rfl))
    have h5' : x % 128 * 2 ^ (7 * i) ≤ lim := by
      rcases Nat.lt_or_ge lim (x % 128 * 2 ^ (7 * i)) with h | h
      · exact absurd ((Nat.div_lt_iff_lt_mul hpos).2 h) h5
      · exact h
    have hshl : IntKind.u64.wrap (((x % 128 : Nat) : Int) * 2 ^ min (7 * i) IntKind.u64.bits) = ((x % 128 * 2 ^ (7 * i) : Nat) : Int) := by
      rw [pow_cast i (by omega), ← Int.natCast_mul]
      exact wrap64 _ (by omega)
    have hbound : n + x % 128 * 2 ^ (7 * i) < 2 ^ (7 * (i + 1)) := by
      have e : 2 ^ (7 * (i + 1)) = 128 * 2 ^ (7 * i) := by rw [show 7 * (i + 1) = 7 * i + 7 by omega, Nat.pow_add, Nat.mul_comm]
      have h2 : (x % 128 + 1) * 2 ^ (7 * i) ≤ 128 * 2 ^ (7 * i) := Nat.mul_le_mul_right _ (by omega)
      rw [Nat.add_mul, Nat.one_mul] at h2
      omega
    have hb64 : n + x % 128 * 2 ^ (7 * i) < 2 ^ 64 := by
      by_cases h9 : i = 9
      · subst h9
        have hle : x % 128 ≤ 1 := by omega
        have h3 : x % 128 * 2 ^ (7 * 9) ≤ 1 * 2 ^ (7 * 9) := Nat.mul_le_mul_right _ hle
        have h4 : (2 : Nat) ^ (7 * 9) = 9223372036854775808 := by decide
        have h5 : (2 : Nat) ^ 64 = 18446744073709551616 := by decide
        omega
      · have := pow_lt64 (i := i + 1) (by omega)
        omega
    have hor := or64 n (x % 128) i hn hb64
    have c5 : decide (((lim / 2 ^ (7 * i) : Nat) : Int) < ((x % 128 : Nat) : Int)) = false := decide_eq_false (by omega)
    replace F := And.intro hshr (And.intro c5 (And.intro hshl (And.intro hor F)))
    by_cases h6 : lim < n + x % 128 * 2 ^ (7 * i)
    · rw [if_pos (.inr (.inr h6))] at hh
      have c6 : decide ((lim : Int) < ((n + x % 128 * 2 ^ (7 * i) : Nat) : Int)) = true := decide_eq_true (by omega)
      replace F := And.intro c6 F
      cases b1 <;> cases b2 <;> cases b3 <;> cases b4
      all_goals first
        | (exfalso; simp only [Bool.false_eq_true, false_iff, true_iff] at c1' c2' c3' c4'; omega)
        | (refine runV F trivial ?_; exact hend hh (by kernel_rfl))
    rw [if_neg (by
      rintro (h | h | h)
      · exact h1 (.inl h)
      · exact h1 (.inr h)
      · exact h6 h)] at hh
    have c6 : decide ((lim : Int) < ((n + x % 128 * 2 ^ (7 * i) : Nat) : Int)) = false := decide_eq_false (by omega)
    by_cases h7 : x < 128
    · rw [if_pos h7] at hh
      have c7 : decide ((x : Int) < 128) = true := decide_eq_true (by omega)
      replace F := And.intro c7 (And.intro c6 F)
      cases b1 <;> cases b2 <;> cases b3 <;> cases b4
      all_goals first
        | (exfalso; simp only [Bool.false_eq_true, false_iff, true_iff] at c1' c2' c3' c4'; omega)
        | (refine runV F trivial ?_; exact hend hh (by kernel_rfl))
    rw [if_neg h7] at hh
    have h8i : i ≤ 8 := by omega
    have c7 : decide ((x : Int) < 128) = false := decide_eq_false (by omega)
    have hsub : IntKind.u64.wrap ((lim : Int) - ((n + x % 128 * 2 ^ (7 * i) : Nat) : Int)) = ((lim - (n + x % 128 * 2 ^ (7 * i)) : Nat) : Int) := by
      have e : (lim : Int) - ((n + x % 128 * 2 ^ (7 * i) : Nat) : Int) = ((lim - (n + x % 128 * 2 ^ (7 * i)) : Nat) : Int) := by omega
      rw [e, wrap64 _ (by omega)]
    have h71 : IntKind.i64.wrap (7 * ((i + 1 : Nat) : Int)) = ((7 * (i + 1) : Nat) : Int) := by rw [wrapi64 _ (by omega) (by omega)]; omega
    have hs1 : IntKind.u64.wrap (1 * 2 ^ min (7 * (i + 1)) IntKind.u64.bits) = ((2 ^ (7 * (i + 1)) : Nat) : Int) := by
      rw [pow_cast (i + 1) (by omega), Int.one_mul]
      exact wrap64 _ (pow_lt64 (by omega))
    replace F := And.intro h71 (And.intro hsub (And.intro hs1 (And.intro c7 (And.intro c6 F))))
    by_cases h8 : lim - (n + x % 128 * 2 ^ (7 * i)) < 2 ^ (7 * (i + 1))
    · rw [if_pos h8] at hh
      have c8 : decide (((lim - (n + x % 128 * 2 ^ (7 * i)) : Nat) : Int) < ((2 ^ (7 * (i + 1)) : Nat) : Int)) = true := decide_eq_true (by omega)
      replace F := And.intro c8 F
      cases b1 <;> cases b2 <;> cases b3 <;> cases b4
      all_goals first
        | (exfalso; simp only [Bool.false_eq_true, false_iff, true_iff] at c1' c2' c3' c4'; omega)
        | (refine runV F trivial ?_; exact hend hh (by kernel_rfl))
    rw [if_neg h8] at hh
    have c8 : decide (((lim - (n + x % 128 * 2 ^ (7 * i)) : Nat) : Int) < ((2 ^ (7 * (i + 1)) : Nat) : Int)) = false := decide_eq_false (by omega)
    replace F := And.intro c8 F
    obtain ⟨v, hv⟩ : ∃ v, v = n + x % 128 * 2 ^ (7 * i) := ⟨_, rfl⟩
    cases b1 <;> cases b2 <;> cases b3 <;> cases b4
    all_goals first
      | (exfalso; simp only [Bool.false_eq_true, false_iff, true_iff] at c1' c2' c3' c4'; omega)
      | (refine runV F trivial ?_; exact Qr_n (i + 1, n + x % 128 * 2 ^ (7 * i)) (by kernel_rfl) ⟨⟨by simp only; omega, by simp only; omega, hbound, hh⟩, by simp only; omega⟩)
  · obtain rfl : i = l.length := by omega
    have hlt : decide ((l.length : Int) < (l.length : Int)) = false := by simp
    rw [List.drop_length] at hh
    rw [← hh]
    refine runV hlt trivial ?_
    refine Qr_x ?_
    refine Qb_x (σ1 := ⟨(.gone 0 :: .gone 0 :: .gone 0 :: .gone 0 :: .gone 0 :: .gone 0 :: .gone 0 :: .gone 0 :: .gone 0 :: .gone 0 :: .gone 0 :: .gone 0 :: .gone 0 :: .gone 0 :: .gone 0 :: .gone 0 :: .gone 0 :: .gone 0 :: .gone 0 :: .gone 0 :: .gone 0 :: .gone 0 :: .gone 0 :: .gone 0 :: .gone 0 :: .gone 0 :: .gone 0 :: .gone 0 :: .gone 0 :: .gone 0 :: .gone 0 :: .gone 0 :: .gone 0 :: .gone 0 :: .gone 0 :: .gone 0 :: .gone 0 :: .gone 0 :: .gone 0 :: .gone 0 :: .gone 0 :: .gone 0 :: .gone 0 :: .gone 0 :: .gone 0 :: .gone 0 :: .gone 0 :: .gone 0 :: .gone 0 :: .gone 0 :: .gone 0 :: .gone 0 :: .gone 0 :: .gone 0 :: .gone 0 :: .gone 0 :: .gone 0 :: .gone 0 :: .gone 0 :: .gone 0 :: .gone 0 :: .gone 0 :: .gone 0 :: .gone 0 :: .gone 0 :: []), []⟩) (by kernel_rfl) ?_
    exact runV trivial trivial trivial
end
end P1
end Go.Vq

namespace Go.Vq
namespace P1
open Go
set_option maxRecDepth 1000000
set_option maxHeartbeats 4000000
section
variable (G : VProg)
theorem take (hG : G 42 = some (.code v42)) (l : List Nat) (lim : Nat) (hl : l.length < 2 ^ 40) (hb : ∀ x ∈ l, x < 256) (hlim : lim < 2 ^ 64) :
    Vq.lim G 42 [.isl 0 1 (byN l), .int .u64 lim] [] = some (.tup [.int .u64 (dec lim 0 0 l).1, .int .i64 (dec lim 0 0 l).2], []) := by
  refine lim_fun hG (h := runV trivial trivial ?_)
  refine WL_loop (fun a : Nat × Nat => ⟨(.isl 0 1 (byN l) :: .int .u64 lim :: .gone 0 :: .gone 0 :: .gone 0 :: .gone 0 :: .int .u64 (a.2 : Nat) :: .int .u64 (2 ^ (7 * a.1) : Nat) :: .int .i64 (a.1 : Nat) :: .gone 0 :: .gone 0 :: .gone 0 :: .gone 0 :: .gone 0 :: .gone 0 :: .gone 0 :: .gone 0 :: .gone 0 :: .gone 0 :: .gone 0 :: .gone 0 :: .gone 0 :: .gone 0 :: .gone 0 :: .gone 0 :: .gone 0 :: .gone 0 :: .gone 0 :: .gone 0 :: .gone 0 :: .gone 0 :: .gone 0 :: .gone 0 :: .gone 0 :: .gone 0 :: .gone 0 :: .gone 0 :: .gone 0 :: .gone 0 :: .gone 0 :: .gone 0 :: .gone 0 :: .gone 0 :: .gone 0 :: .gone 0 :: .gone 0 :: .gone 0 :: .gone 0 :: .gone 0 :: .gone 0 :: .gone 0 :: .gone 0 :: .gone 0 :: .gone 0 :: .gone 0 :: .gone 0 :: .gone 0 :: .gone 0 :: .gone 0 :: .gone 0 :: .gone 0 :: .gone 0 :: .gone 0 :: .gone 0 :: .gone 0 :: .gone 0 :: .gone 0 :: .gone 0 :: .gone 0 :: .gone 0 :: []), []⟩)
    (fun a => a.1 ≤ l.length ∧ a.1 ≤ 9 ∧ a.2 < 2 ^ (7 * a.1) ∧ dec lim a.1 a.2 (l.drop a.1) = dec lim 0 0 l) (fun a => l.length - a.1) ?_ (0, 0) _ ⟨by omega, by omega, by simp, rfl⟩ (by kernel_rfl)
  rintro ⟨i, n⟩ ⟨hi, hi9, hn, hh⟩
  simp only at hi hi9 hn hh ⊢
  by_cases h : i < l.length
  · have hlt : decide ((i : Int) < (l.length : Int)) = true := by simp; omega
    have hadd := inc64 i (by omega)
    have hg := byN_get l i h
    have hx := hb _ (List.getElem_mem h)
    rw [List.drop_eq_getElem_cons h, dec_cons] at hh
    obtain ⟨x, hxd⟩ : ∃ x, x = l[i] := ⟨_, rfl⟩
    rw [← hxd] at hg hx hh
    clear hxd
    have hp : (x : Int).tmod 128 = ((x % 128 : Nat) : Int) := by rw [Int.tmod_eq_emod_of_nonneg (by omega)]; rfl
    have hp2 : IntKind.u64.wrap ((x % 128 : Nat) : Int) = ((x % 128 : Nat) : Int) := wrap64 _ (by omega)
    obtain ⟨b1, c1⟩ : ∃ b, ((i : Int) == 9) = b := ⟨_, rfl⟩
    obtain ⟨b2, c2⟩ : ∃ b, decide (1 < (x : Int)) = b := ⟨_, rfl⟩
    obtain ⟨b3, c3⟩ : ∃ b, decide (0 < (i : Int)) = b := ⟨_, rfl⟩
    obtain ⟨b4, c4⟩ : ∃ b, ((x : Int) == 0) = b := ⟨_, rfl⟩
    have c9 : decide (9 < (i : Int)) = false := by simp; omega
    have F := And.intro hlt (And.intro hadd (And.intro hg (And.intro hp (And.intro hp2 (And.intro c9 (And.intro c1 (And.intro c2 (And.intro c3 c4))))))))
    have c1' : b1 = true ↔ i = 9 := by rw [← c1]; simp; omega
    have c2' : b2 = true ↔ 1 < x := by rw [← c2]; simp; omega
    have c3' : b3 = true ↔ 0 < i := by rw [← c3]; simp
    have c4' : b4 = true ↔ x = 0 := by rw [← c4]; simp
    by_cases h1 : (i = 9 ∧ 1 < x) ∨ (0 < i ∧ x = 0)
    · rw [if_pos (by rcases h1 with h1 | h1; · exact .inl h1
                     · exact .inr (.inl h1))] at hh
      rw [← hh]
      cases b1 <;> cases b2 <;> cases b3 <;> cases b4
      all_goals first
        | (exfalso; simp only [Bool.false_eq_true, false_iff, true_iff] at c1' c2' c3' c4'; omega)
        | (refine runV F trivial ?_; exact Qr_r (Qb_r (Qs_r (Qe_r (by kernel_rfl)))))
    have hbound : n + x % 128 * 2 ^ (7 * i) < 2 ^ (7 * (i + 1)) := by
      have e : 2 ^ (7 * (i + 1)) = 128 * 2 ^ (7 * i) := by rw [show 7 * (i + 1) = 7 * i + 7 by omega, Nat.pow_add, Nat.mul_comm]
      have h2 : (x % 128 + 1) * 2 ^ (7 * i) ≤ 128 * 2 ^ (7 * i) := Nat.mul_le_mul_right _ (by omega)
      rw [Nat.add_mul, Nat.one_mul] at h2
      omega
    have hb64 : n + x % 128 * 2 ^ (7 * i) < 2 ^ 64 := by
      by_cases h9 : i = 9
      · subst h9
        have hle : x % 128 ≤ 1 := by omega
        have h3 : x % 128 * 2 ^ (7 * 9) ≤ 1 * 2 ^ (7 * 9) := Nat.mul_le_mul_right _ hle
        have h4 : (2 : Nat) ^ (7 * 9) = 9223372036854775808 := by decide
        have h5 : (2 : Nat) ^ 64 = 18446744073709551616 := by decide
        omega
      · have := pow_lt64 (i := i + 1) (by omega)
        omega
    have hmul : IntKind.u64.wrap (((x % 128 : Nat) : Int) * ((2 ^ (7 * i) : Nat) : Int)) = ((x % 128 * 2 ^ (7 * i) : Nat) : Int) := by
      rw [← Int.natCast_mul]
      exact wrap64 _ (by omega)
    have hsum : IntKind.u64.wrap ((n : Int) + ((x % 128 * 2 ^ (7 * i) : Nat) : Int)) = ((n + x % 128 * 2 ^ (7 * i) : Nat) : Int) := by
      rw [← Int.natCast_add]
      exact wrap64 _ hb64
    replace F := And.intro hmul (And.intro hsum F)
    by_cases h6 : lim < n + x % 128 * 2 ^ (7 * i)
    · rw [if_pos (.inr (.inr h6))] at hh
      rw [← hh]
      have c6 : decide ((lim : Int) < ((n + x % 128 * 2 ^ (7 * i) : Nat) : Int)) = true := decide_eq_true (by omega)
      replace F := And.intro c6 F
      cases b1 <;> cases b2 <;> cases b3 <;> cases b4
      all_goals first
        | (exfalso; simp only [Bool.false_eq_true, false_iff, true_iff] at c1' c2' c3' c4'; omega)
        | (refine runV F trivial ?_; exact Qr_r (Qb_r (Qs_r (Qe_r (by kernel_rfl)))))
    rw [if_neg (by
      rintro (h | h | h)
      · exact h1 (.inl h)
      · exact h1 (.inr h)
      · exact h6 h)] at hh
    have c6 : decide ((lim : Int) < ((n + x % 128 * 2 ^ (7 * i) : Nat) : Int)) = false := decide_eq_false (by omega)
    by_cases h7 : x < 128
    · rw [if_pos h7] at hh
      rw [← hh]
      have c7 : decide ((x : Int) < 128) = true := decide_eq_true (by omega)
      replace F := And.intro c7 (And.intro c6 F)
      cases b1 <;> cases b2 <;> cases b3 <;> cases b4
      all_goals first
        | (exfalso; simp only [Bool.false_eq_true, false_iff, true_iff] at c1' c2' c3' c4'; omega)
        | (refine runV F trivial ?_; exact Qr_r (Qb_r (Qs_r (Qe_r (by kernel_rfl)))))
    rw [if_neg h7] at hh
    have h8i : i ≤ 8 := by omega
    have c7 : decide ((x : Int) < 128) = false := decide_eq_false (by omega)
    have hsub : IntKind.u64.wrap ((lim : Int) - ((n + x % 128 * 2 ^ (7 * i) : Nat) : Int)) = ((lim - (n + x % 128 * 2 ^ (7 * i)) : Nat) : Int) := by
      have e : (lim : Int) - ((n + x % 128 * 2 ^ (7 * i) : Nat) : Int) = ((lim - (n + x % 128 * 2 ^ (7 * i)) : Nat) : Int) := by omega
      rw [e, wrap64 _ (by omega)]
    have hw2 : IntKind.u64.wrap (((2 ^ (7 * i) : Nat) : Int) * 128) = ((2 ^ (7 * (i + 1)) : Nat) : Int) := by
      have e : 2 ^ (7 * (i + 1)) = 2 ^ (7 * i) * 128 := by rw [show 7 * (i + 1) = 7 * i + 7 by omega, Nat.pow_add]
      have := pow_lt64 (i := i + 1) (by omega)
      rw [e, show (128 : Int) = ((128 : Nat) : Int) from rfl, ← Int.natCast_mul]
      exact wrap64 _ (by omega)
    replace F := And.intro hsub (And.intro hw2 (And.intro c7 (And.intro c6 F)))
    by_cases h8 : lim - (n + x % 128 * 2 ^ (7 * i)) < 2 ^ (7 * (i + 1))
    · rw [if_pos h8] at hh
      rw [← hh]
      have c8 : decide (((lim - (n + x % 128 * 2 ^ (7 * i)) : Nat) : Int) < ((2 ^ (7 * (i + 1)) : Nat) : Int)) = true := decide_eq_true (Int.ofNat_lt.2 h8)
      replace F := And.intro c8 F
      cases b1 <;> cases b2 <;> cases b3 <;> cases b4
      all_goals first
        | (exfalso; simp only [Bool.false_eq_true, false_iff, true_iff] at c1' c2' c3' c4'; omega)
        | (refine runV F trivial ?_; exact Qr_r (Qb_r (Qs_r (Qe_r (by kernel_rfl)))))
    rw [if_neg h8] at hh
    have c8 : decide (((lim - (n + x % 128 * 2 ^ (7 * i)) : Nat) : Int) < ((2 ^ (7 * (i + 1)) : Nat) : Int)) = false := decide_eq_false fun h => h8 (Int.ofNat_lt.1 h)
    replace F := And.intro c8 F
    cases b1 <;> cases b2 <;> cases b3 <;> cases b4
    all_goals first
      | (exfalso; simp only [Bool.false_eq_true, false_iff, true_iff] at c1' c2' c3' c4'; omega)
      | (refine runV F trivial ?_; exact Qr_n (i + 1, n + x % 128 * 2 ^ (7 * i)) (by kernel_rfl) ⟨⟨by simp only; omega, by simp only; omega, hbound, hh⟩, by simp only; omega⟩)
  · obtain rfl : i = l.length := by omega
    have hlt : decide ((l.length : Int) < (l.length : Int)) = false := by simp
    rw [List.drop_length] at hh
    rw [← hh]
    refine runV hlt trivial ?_
    refine Qr_x ?_
    refine Qb_x (σ1 := ⟨(.gone 0 :: .gone 0 :: .gone 0 :: .gone 0 :: .gone 0 :: .gone 0 :: .gone 0 :: .gone 0 :: .gone 0 :: .gone 0 :: .gone 0 :: .gone 0 :: .gone 0 :: .gone 0 :: .gone 0 :: .gone 0 :: .gone 0 :: .gone 0 :: .gone 0 :: .gone 0 :: .gone 0 :: .gone 0 :: .gone 0 :: .gone 0 :: .gone 0 :: .gone 0 :: .gone 0 :: .gone 0 :: .gone 0 :: .gone 0 :: .gone 0 :: .gone 0 :: .gone 0 :: .gone 0 :: .gone 0 :: .gone 0 :: .gone 0 :: .gone 0 :: .gone 0 :: .gone 0 :: .gone 0 :: .gone 0 :: .gone 0 :: .gone 0 :: .gone 0 :: .gone 0 :: .gone 0 :: .gone 0 :: .gone 0 :: .gone 0 :: .gone 0 :: .gone 0 :: .gone 0 :: .gone 0 :: .gone 0 :: .gone 0 :: .gone 0 :: .gone 0 :: .gone 0 :: .gone 0 :: .gone 0 :: .gone 0 :: .gone 0 :: .gone 0 :: .gone 0 :: .gone 0 :: .gone 0 :: .gone 0 :: .gone 0 :: .gone 0 :: []), []⟩) (by kernel_rfl) ?_
    exact runV trivial trivial trivial
end
end P1
end Go.Vq

namespace Go.Vq
namespace P1
open Go
set_option maxRecDepth 1000000
set_option maxHeartbeats 4000000
abbrev b39 : VCode := .seq (.region [⟨some 2, .assign (.val .nil), none, 0⟩] false) (.seq (.region [⟨some 3, .move (.tmp 0), none, 0⟩, ⟨some 4, .call true 53 0 [(.tmp 3)], none, 1⟩, ⟨some 5, .build [(.nilS 1), (.bool false)] [(0, 1, (.tmp 4))], none, 3⟩, ⟨some 6, .box 0 2 (.tmp 5), none, 7⟩, ⟨some 2, .assign (.tmp 6), none, 15⟩] false) (.ret))
abbrev v39 : VFunc := { nparams := 1, ntmps := 7, nsites := 1, results := [.tmp 2], body := b39 }
abbrev b40 : VCode := .seq (.region [⟨some 4, .assign (.val (.int .u64 0)), none, 0⟩] false) (.seq (.seq (.region [⟨some 7, .move (.tmp 0), none, 0⟩, ⟨some 8, .nilCheck (.tmp 7), none, 1⟩, ⟨some 9, .fieldAddr 1 (.tmp 8), none, 3⟩, ⟨some 10, .load false 1 (.tmp 9), none, 7⟩] false) (.cond (.tmp 10) (.seq (.region [⟨some 4, .assign (.val (.int .u64 0)), none, 0⟩] false) (.ret)) (.skip))) (.seq (.region [⟨some 12, .move (.tmp 0), none, 0⟩, ⟨some 13, .nilCheck (.tmp 12), none, 1⟩, ⟨some 14, .fieldAddr 0 (.tmp 13), none, 3⟩, ⟨some 15, .load false 1 (.tmp 14), none, 7⟩, ⟨some 16, .move (.tmp 1), none, 0⟩, ⟨some 17, .call true 52 0 [(.tmp 15), (.tmp 16)], none, 31⟩, ⟨some 11, .move (.tmp 17), none, 63⟩, ⟨some 18, .extract (.tmp 11) 0, none, 127⟩, ⟨some 19, .extract (.tmp 11) 1, none, 127⟩, ⟨some 5, .assign (.tmp 18), none, 255⟩, ⟨some 6, .assign (.tmp 19), none, 1023⟩] false) (.seq (.seq (.region [⟨some 20, .move (.tmp 6), none, 0⟩, ⟨some 21, .bin (.leq) (.tmp 20) (.val (.int .i64 0)), none, 1⟩] false) (.cond (.tmp 21) (.seq (.region [⟨some 22, .move (.tmp 0), none, 0⟩, ⟨some 23, .nilCheck (.tmp 22), none, 1⟩, ⟨some 24, .fieldAddr 1 (.tmp 23), none, 3⟩, ⟨none, .store 1 (.tmp 24) (.val (.bool true)), none, 7⟩] false) (.seq (.region [⟨some 4, .assign (.val (.int .u64 0)), none, 0⟩] false) (.ret))) (.skip))) (.seq (.region [⟨some 25, .move (.tmp 0), none, 0⟩, ⟨some 26, .move (.tmp 0), none, 0⟩, ⟨some 27, .nilCheck (.tmp 26), none, 2⟩, ⟨some 28, .fieldAddr 0 (.tmp 27), none, 6⟩, ⟨some 29, .load false 1 (.tmp 28), none, 14⟩, ⟨some 30, .move (.tmp 6), none, 0⟩, ⟨some 31, .slice (.slc 1) (.tmp 29) (some (.tmp 30)) none none, none, 62⟩, ⟨some 32, .nilCheck (.tmp 25), none, 127⟩, ⟨some 33, .fieldAddr 0 (.tmp 32), none, 255⟩, ⟨none, .store 1 (.tmp 33) (.tmp 31), none, 511⟩] false) (.seq (.region [⟨some 34, .move (.tmp 5), none, 0⟩, ⟨some 4, .assign (.tmp 34), none, 1⟩] false) (.ret))))))
abbrev v40 : VFunc := { nparams := 2, ntmps := 35, nsites := 0, results := [.tmp 4], body := b40 }
abbrev b41 : VCode := .seq (.region [⟨some 2, .assign (.val (.bool false)), none, 0⟩] false) (.seq (.region [⟨some 3, .move (.tmp 0), none, 0⟩, ⟨some 4, .nilCheck (.tmp 3), none, 1⟩, ⟨some 5, .fieldAddr 1 (.tmp 4), none, 3⟩, ⟨some 6, .load false 1 (.tmp 5), none, 7⟩, ⟨some 7, .un (.not) (.tmp 6), none, 15⟩, ⟨some 8, .move (.tmp 7), none, 31⟩, ⟨some 9, .move (.tmp 0), some (8, true), 63⟩, ⟨some 10, .nilCheck (.tmp 9), some (8, true), 127⟩, ⟨some 11, .fieldAddr 0 (.tmp 10), some (8, true), 255⟩, ⟨some 12, .load false 1 (.tmp 11), some (8, true), 511⟩, ⟨some 13, .len (.slc 1) (.tmp 12), some (8, true), 1023⟩, ⟨some 14, .eq false (.num) (.tmp 13) (.val (.int .i64 0)), some (8, true), 2047⟩, ⟨some 15, .pick (.tmp 8) (.tmp 14) (.val (.bool false)), none, 4095⟩, ⟨some 2, .assign (.tmp 15), none, 8191⟩] false) (.ret))
abbrev v41 : VFunc := { nparams := 1, ntmps := 16, nsites := 0, results := [.tmp 2], body := b41 }
abbrev b43 : VCode := .seq (.region [⟨some 2, .assign (.val (.bool false)), none, 0⟩] false) (.seq (.region [⟨some 3, .move (.tmp 0), none, 0⟩, ⟨some 4, .nilCheck (.tmp 3), none, 1⟩, ⟨some 5, .fieldAddr 1 (.tmp 4), none, 3⟩, ⟨some 6, .load false 1 (.tmp 5), none, 7⟩, ⟨some 2, .assign (.tmp 6), none, 15⟩] false) (.ret))
abbrev v43 : VFunc := { nparams := 1, ntmps := 7, nsites := 0, results := [.tmp 2], body := b43 }
abbrev b44 : VCode := .seq (.region [⟨some 4, .assign (.val (.str [])), none, 0⟩] false) (.seq (.region [⟨some 7, .move (.tmp 0), none, 0⟩, ⟨some 8, .move (.tmp 0), none, 0⟩, ⟨some 9, .nilCheck (.tmp 8), none, 2⟩, ⟨some 10, .fieldAddr 1 (.tmp 9), none, 6⟩, ⟨some 11, .load false 1 (.tmp 10), none, 14⟩, ⟨some 12, .move (.tmp 11), none, 30⟩, ⟨some 13, .move (.tmp 1), some (12, false), 62⟩, ⟨some 14, .bin (.lss) (.tmp 13) (.val (.int .i64 0)), some (12, false), 126⟩, ⟨some 15, .pick (.tmp 12) (.val (.bool true)) (.tmp 14), none, 254⟩, ⟨some 16, .nilCheck (.tmp 7), none, 511⟩, ⟨some 17, .fieldAddr 1 (.tmp 16), none, 1023⟩, ⟨none, .store 1 (.tmp 17) (.tmp 15), none, 2047⟩] false) (.seq (.region [⟨some 18, .move (.tmp 0), none, 0⟩, ⟨some 19, .move (.tmp 1), none, 0⟩, ⟨some 20, .max [(.tmp 19), (.val (.int .i64 0))], none, 2⟩, ⟨some 21, .conv (.int (.u64)) (.tmp 20), none, 6⟩, ⟨some 22, .call false 40 0 [(.tmp 18), (.tmp 21)], none, 15⟩, ⟨some 5, .assign (.tmp 22), none, 31⟩] false) (.seq (.seq (.region [⟨some 23, .move (.tmp 0), none, 0⟩, ⟨some 24, .nilCheck (.tmp 23), none, 1⟩, ⟨some 25, .fieldAddr 1 (.tmp 24), none, 3⟩, ⟨some 26, .load false 1 (.tmp 25), none, 7⟩, ⟨some 27, .move (.tmp 26), none, 15⟩, ⟨some 28, .move (.tmp 5), some (27, false), 31⟩, ⟨some 29, .move (.tmp 0), some (27, false), 31⟩, ⟨some 30, .nilCheck (.tmp 29), some (27, false), 95⟩, ⟨some 31, .fieldAddr 0 (.tmp 30), some (27, false), 223⟩, ⟨some 32, .load false 1 (.tmp 31), some (27, false), 479⟩, ⟨some 33, .len (.slc 1) (.tmp 32), some (27, false), 991⟩, ⟨some 34, .conv (.int (.u64)) (.tmp 33), some (27, false), 2015⟩, ⟨some 35, .bin (.gtr) (.tmp 28) (.tmp 34), some (27, false), 4095⟩, ⟨some 36, .pick (.tmp 27) (.val (.bool true)) (.tmp 35), none, 8191⟩] false) (.cond (.tmp 36) (.seq (.region [⟨some 37, .move (.tmp 0), none, 0⟩, ⟨some 38, .nilCheck (.tmp 37), none, 1⟩, ⟨some 39, .fieldAddr 1 (.tmp 38), none, 3⟩, ⟨none, .store 1 (.tmp 39) (.val (.bool true)), none, 7⟩] false) (.seq (.region [⟨some 4, .assign (.val (.str [])), none, 0⟩] false) (.ret))) (.skip))) (.seq (.region [⟨some 40, .move (.tmp 0), none, 0⟩, ⟨some 41, .nilCheck (.tmp 40), none, 1⟩, ⟨some 42, .fieldAddr 0 (.tmp 41), none, 3⟩, ⟨some 43, .load false 1 (.tmp 42), none, 7⟩, ⟨some 44, .move (.tmp 5), none, 0⟩, ⟨some 45, .slice (.slc 1) (.tmp 43) none (some (.tmp 44)) none, none, 31⟩, ⟨some 46, .conv (.text) (.tmp 45), none, 63⟩, ⟨some 6, .assign (.tmp 46), none, 127⟩] false) (.seq (.region [⟨some 47, .move (.tmp 0), none, 0⟩, ⟨some 48, .move (.tmp 0), none, 0⟩, ⟨some 49, .nilCheck (.tmp 48), none, 2⟩, ⟨some 50, .fieldAddr 0 (.tmp 49), none, 6⟩, ⟨some 51, .load false 1 (.tmp 50), none, 14⟩, ⟨some 52, .move (.tmp 5), none, 0⟩, ⟨some 53, .slice (.slc 1) (.tmp 51) (some (.tmp 52)) none none, none, 62⟩, ⟨some 54, .nilCheck (.tmp 47), none, 127⟩, ⟨some 55, .fieldAddr 0 (.tmp 54), none, 255⟩, ⟨none, .store 1 (.tmp 55) (.tmp 53), none, 511⟩] false) (.seq (.region [⟨some 56, .move (.tmp 6), none, 0⟩, ⟨some 4, .assign (.tmp 56), none, 1⟩] false) (.ret)))))))
abbrev v44 : VFunc := { nparams := 2, ntmps := 57, nsites := 0, results := [.tmp 4], body := b44 }
abbrev p0 : V := .ptr (.obj 0 0)
abbrev rd (l : List Nat) (bad : Bool) : Obj := .cells [.xsl 0 1 (byN l), .bool bad]
theorem dec_cases (lim : Nat) : ∀ (l : List Nat) (i n : Nat), dec lim i n l = (0, -1) ∨ dec lim i n l = (0, 0) ∨ ∃ N u : Nat, dec lim i n l = ((N : Int), (u : Int)) ∧ i < u ∧ u ≤ i + l.length ∧ N ≤ lim
  | [], i, n => .inr (.inl rfl)
  | x :: l, i, n => by
    rw [dec_cons]
    split
    · exact .inl rfl
    · rename_i h
      split
      · exact .inr (.inr ⟨_, _, rfl, by omega, by simp only [List.length_cons]; omega, by omega⟩)
      · split
        · exact .inl rfl
        · rcases dec_cases lim l (i + 1) (n + x % 128 * 2 ^ (7 * i)) with h | h | ⟨N, u, h, h1, h2, h3⟩
          · exact .inl h
          · exact .inr (.inl h)
          · exact .inr (.inr ⟨N, u, h, by omega, by simp only [List.length_cons]; omega, h3⟩)
/-- What a reader's Number does. -/
def numR (lim : Nat) (l : List Nat) (bad : Bool) : Int × List Nat × Bool := if bad = true ∨ (dec lim 0 0 l).2 ≤ 0 then (0, l, true) else ((dec lim 0 0 l).1, l.drop (dec lim 0 0 l).2.toNat, false)
theorem byN_sub (l : List Nat) (a b : Nat) : List.take a (List.drop b (byN l)) = byN ((l.drop b).take a) := by rw [byN_drop, byN_take]
section
variable (G : VProg)
theorem new (hG : G 39 = some (.code v39)) (h : ∀ es : List V, es.length ≤ 140737488355328 → Vq.lim G 53 [.isl 0 1 es] [] = some (.xsl 0 1 es, [])) (l : List Nat) (hl : l.length < 2 ^ 40) : Vq.lim G 39 [.isl 0 1 (byN l)] [] = some (p0, [rd l false]) := by
  have hc := h (byN l) (by rw [byN_len]; omega)
  have ha : V.apart (.xsl 0 1 (byN l)) = true := by simp [V.apart, V.leaves, byN, V.noslice]
  exact lim_fun hG (h := runV ha ha trivial)
theorem bad (hG : G 43 = some (.code v43)) (l : List Nat) (b : Bool) : Vq.lim G 43 [p0] [rd l b] = some (.bool b, [rd l b]) :=
  lim_fun hG (h := runV trivial trivial trivial)
theorem done (hG : G 41 = some (.code v41)) (l : List Nat) (b : Bool) : Vq.lim G 41 [p0] [rd l b] = some (.bool (!b && ((l.length : Int) == 0)), [rd l b]) := by
  cases b
  all_goals exact lim_fun hG (h := runV trivial trivial trivial)
theorem rnum (hG : G 40 = some (.code v40)) (l : List Nat) (b : Bool) (L : Nat)
    (hn : Vq.lim G 52 [.isl 0 1 (byN l), .int .u64 L] [] = some (.tup [.int .u64 (dec L 0 0 l).1, .int .i64 (dec L 0 0 l).2], [])) :
    Vq.lim G 40 [p0, .int .u64 L] [rd l b] = some (.int .u64 (numR L l b).1, [rd (numR L l b).2.1 (numR L l b).2.2]) := by
  cases b
  · unfold numR
    rcases dec_cases L l 0 0 with h | h | ⟨N, u, h, h1, h2, h3⟩
    · rw [h] at hn ⊢
      have hc : decide ((-1 : Int) ≤ 0) = true := rfl
      exact lim_fun hG (h := runV hc trivial trivial)
    · rw [h] at hn ⊢
      have hc : decide ((0 : Int) ≤ 0) = true := rfl
      exact lim_fun hG (h := runV hc trivial trivial)
    · rw [h] at hn ⊢
      simp only [Bool.false_eq_true, false_or, Int.toNat_natCast]
      rw [if_neg (by omega)]
      have hc : decide ((u : Int) ≤ 0) = false := by simp; omega
      have hu : u ≤ l.length := by omega
      have es : List.take (l.length - u) (List.drop u (byN l)) = byN (l.drop u) := by rw [byN_sub, List.take_of_length_le (by simp)]
      exact lim_fun hG (h := runV (And.intro hc es) trivial trivial)
  · exact lim_fun hG (h := runV trivial trivial trivial)
end
theorem numR_cases (L : Nat) (l : List Nat) (b : Bool) : numR L l b = (0, l, true) ∨ ∃ N u : Nat, numR L l b = ((N : Int), l.drop u, false) ∧ u ≤ l.length ∧ N ≤ L ∧ dec L 0 0 l = ((N : Int), (u : Int)) ∧ 0 < u ∧ b = false := by
  unfold numR
  cases b
  · rcases dec_cases L l 0 0 with h | h | ⟨N, u, h, h1, h2, h3⟩
    · rw [h]; exact .inl rfl
    · rw [h]; exact .inl rfl
    · rw [h]
      simp only [Bool.false_eq_true, false_or, Int.toNat_natCast]
      rw [if_neg (by omega)]
      refine .inr ⟨N, u, ?_, by omega, h3, ?_, h1, ?_⟩
      all_goals first | rfl | trivial
  · exact .inl rfl
def strN (l : List Nat) : List UInt8 := l.map UInt8.ofNat
theorem textV_by (l : List Nat) : textV (byN l) = some (strN l) := by
  induction l with
  | nil => rfl
  | cons x l ih => rw [byN_cons]; simp only [textV, ih]; rfl
/-- What a reader's Text does. -/
def txtR (lim : Int) (l : List Nat) (b : Bool) : List UInt8 × List Nat × Bool :=
  let r := numR (max lim 0).toNat l (b || decide (lim < 0))
  if r.2.2 = true ∨ (r.2.1.length : Int) < r.1 then ([], r.2.1, true) else (strN (r.2.1.take r.1.toNat), r.2.1.drop r.1.toNat, false)
section
variable (G : VProg)
theorem rtext (hG : G 44 = some (.code v44)) (l : List Nat) (b : Bool) (lim : Int) (hl : l.length < 2 ^ 40) (hlim : lim < 9223372036854775808)
    (hn : Vq.lim G 40 [p0, .int .u64 (max lim 0).toNat] [rd l (b || decide (lim < 0))] = some (.int .u64 (numR (max lim 0).toNat l (b || decide (lim < 0))).1, [rd (numR (max lim 0).toNat l (b || decide (lim < 0))).2.1 (numR (max lim 0).toNat l (b || decide (lim < 0))).2.2])) :
    Vq.lim G 44 [p0, .int .i64 lim] [rd l b] = some (.str (txtR lim l b).1, [rd (txtR lim l b).2.1 (txtR lim l b).2.2]) := by
  have hw : IntKind.u64.wrap (((max lim 0).toNat : Nat) : Int) = (((max lim 0).toNat : Nat) : Int) := wrap64 _ (by omega)
  have hmx : (if lim < 0 then 0 else lim) = (((max lim 0).toNat : Nat) : Int) := by split <;> omega
  unfold txtR
  obtain ⟨L, hL⟩ : ∃ L, L = (max lim 0).toNat := ⟨_, rfl⟩
  rw [← hL] at hn hw hmx ⊢
  cases hneg : decide (lim < 0)
  all_goals rw [hneg] at hn
  all_goals cases b
  all_goals simp only [Bool.or_false, Bool.or_true, Bool.true_or, Bool.false_or] at hn ⊢
  · rcases numR_cases L l false with h | ⟨N, u, h, h1, h2, h3, h4, _⟩
    · rw [h] at hn ⊢
      exact lim_fun hG (h := runV (And.intro hw (And.intro hmx hneg)) trivial trivial)
    · rw [h] at hn ⊢
      have hwl : IntKind.u64.wrap (((l.drop u).length : Nat) : Int) = (((l.drop u).length : Nat) : Int) := wrap64 _ (by simp; omega)
      cases hgt : decide (((l.drop u).length : Int) < (N : Int))
      · have hle : N ≤ (l.drop u).length := by simp at hgt ⊢; omega
        simp only [Bool.false_eq_true, false_or]
        rw [if_neg (by simpa using hgt)]
        simp only [Int.toNat_natCast]
        obtain ⟨r, hr⟩ : ∃ r, r = l.drop u := ⟨_, rfl⟩
        rw [← hr] at hn hgt hle hwl ⊢
        have e1 : List.take (r.length - N) (List.drop N (byN r)) = byN (r.drop N) := by rw [byN_sub, List.take_of_length_le (by simp)]
        have e2 : textV (byN (r.take N)) = some (strN (r.take N)) := textV_by _
        exact lim_fun hG (h := runV (And.intro hw (And.intro hmx (And.intro hneg (And.intro hwl (And.intro hgt (And.intro e1 e2)))))) trivial trivial)
      · rw [if_pos (.inr (by simpa using hgt))]
        exact lim_fun hG (h := runV (And.intro hw (And.intro hmx (And.intro hneg (And.intro hwl hgt)))) trivial trivial)
  all_goals
    rcases numR_cases L l true with h | ⟨N, u, h, h1, h2, h3, h4, h5⟩
    · rw [h] at hn ⊢
      exact lim_fun hG (h := runV (And.intro hw (And.intro hmx hneg)) trivial trivial)
    · cases h5
end
end P1
end Go.Vq

