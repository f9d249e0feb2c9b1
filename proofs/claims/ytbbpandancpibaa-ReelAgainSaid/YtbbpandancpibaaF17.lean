/- A machine of values and its tie to the model, and runs of it: part 17 of 18 (no law of Go is stated here). -/
import Derived.Test.YtbbpandancpibaaF16
set_option linter.unusedVariables false
set_option linter.unusedSimpArgs false
set_option linter.unusedSectionVars false
namespace Go.Vq
namespace P1
open Go
set_option maxRecDepth 1000000
set_option maxHeartbeats 8000000
theorem le8_lt (n : Nat) : ∀ x ∈ le8 n, x < 256 := by
  intro x hx
  simp [le8] at hx
  omega
theorem pad48_lt {l : List Nat} (h : ∀ x ∈ l, x < 256) : ∀ x ∈ pad48 l, x < 256 := by
  intro x hx
  rcases List.mem_append.1 hx with hx | hx
  · exact h x hx
  · have := List.eq_of_mem_replicate hx; omega
theorem cellM_C {n : Nat} {l : List Nat} (hl : l.length ≤ 48) (hb : ∀ x ∈ l, x < 256) : C64 (cellM n l) := by
  refine ⟨by simp [cellM, le8, pad48_len hl], fun x hx => ?_⟩
  rcases List.mem_append.1 hx with hx | hx
  · exact le8_lt n x hx
  · rcases List.mem_append.1 hx with hx | hx
    · exact pad48_lt hb x hx
    · exact le8_lt n x hx
structure Marks (G : VProg) : Prop where
  put : ∀ (side : Int) (r : Nat) (at' : Int) (inner : List Nat) (es fz ls off left) (_ : es.length ≤ 4096) (_ : LR left) (_ : (ls.length + 1) * 72 ≤ 140737488355328) (_ : r < 2 ^ 64),
    lim G 15 [q0, .int .i64 side, .int .u64 r, .int .i64 at', .isl 0 1 (byN inner)] [plateO es fz ls off left] =
      if 0 ≤ side ∧ side < 2 ∧ 1 ≤ r ∧ r ≤ 1099511627776 ∧ 0 ≤ at' ∧ at' < (es.length / 2 : Nat) ∧ inner.length ≤ 48 then
        (if spO off left then some (.int .i64 72, [plateO es fz ls true left]) else some (.int .i64 0, [plateO es fz (ls ++ [((side.toNat * (es.length / 2) + at'.toNat), cellM (mkN r at'.toNat) inner)]) false (spL off left)]))
      else some (.int .i64 81, [plateO es fz ls off left])
  read : ∀ (side : Int) (es fz ls off left) (_ : PW es ls),
    lim G 14 [q0, .int .i64 side] [plateO es fz ls off left] = some (readV (readN es ls side), [plateO es (fz || decide (0 ≤ side ∧ side < 2 ∧ 0 < es.length / 2)) ls off left])
  top : ∀ (es fz ls off left) (_ : PW es ls), lim G 16 [q0] [plateO es fz ls off left] = some (.int .u64 (topN es ls es.length : Nat), [plateO es (fz || decide (0 < es.length)) ls off left])
  room : ∀ es fz ls off left, es.length < 2 ^ 40 → lim G 28 [q0] [plateO es fz ls off left] = some (.int .i64 ((es.length / 2 : Nat) : Int), [plateO es fz ls off left])
theorem marks_ok (G : VProg) (hc : ∀ es : List V, es.length ≤ 140737488355328 → lim G 51 [.isl 0 1 es] [] = some (.xsl 0 1 es, []))
    (k1 : G 58 = some (.code v58)) (k2 : G 56 = some (.code v56)) (k3 : G 25 = some (.code v25)) (k4 : G 53 = some (.code v53))
    (k5 : G 52 = some (.code v52)) (k6 : G 69 = some (.code v69)) (k7 : G 80 = some (.iter (backwardI true 65)))
    (m1 : G 70 = some (.code v70)) (m2 : G 81 = some (.code v81)) (m3 : G 88 = some (.iter (backwardI false 1)))
    (m4 : G 54 = some (.code v54)) (m5 : G 48 = some (.code v48)) (m6 : G 50 = some (.code v50)) (m7 : G 28 = some (.code v28)) (m8 : G 49 = some (.code v49))
    (m9 : G 16 = some (.code v16)) (m10 : G 15 = some (.code v15)) (m11 : G 14 = some (.code v14)) : Marks G := by
  have t45 := there G k1
  have t46 := spend G k2
  have tl := plen G k5
  have tb := back G k6
  have tput := put G k3 t45 t46
  have tget := pget G k4 k7 t45 tb
  have bB := backB G m2
  have num := number8 G m1 m3 bB
  have en := ends G m4 num
  have mk := marked G m5 en
  have ma := mark G m6
  have ro := room G m7 tl
  have ce := fun s a hs ha es fz ls off left (h : PW es ls) => mcell G m8 ro tget s a hs ha es fz ls off left (fun c hc => (h.c c hc).1) (fun w hw => (h.w w hw).2.1) (by have := h.n; omega) h.m (getC_C h _).1
  exact ⟨fun side r at' inner es fz ls off left hn hl hb hr => mput G m10 ro ma tput side r at' inner es fz ls off left hn hl hb hr,
    fun side es fz ls off left h => mread G m11 ro ma mk hc ce side es fz ls off left h,
    fun es fz ls off left h => top G m9 tl tget en es fz ls off left h, ro⟩
end P1
end Go.Vq
namespace Go.Vq
namespace P1
open Go
set_option maxRecDepth 1000000
set_option maxHeartbeats 4000000
abbrev b84 : VCode := .seq (.region [⟨some 4, .assign (.val (.int .u32 0)), none, 0⟩] false) (.seq (.seq (.region [⟨some 5, .move (.tmp 1), none, 0⟩, ⟨some 6, .move (.val (.int .i64 0)), none, 0⟩] false) (.block 0 (some [0]) (.loop (some [0, 1, 5, 6]) (.seq (.region [⟨some 7, .bin (.lss) (.tmp 6) (.tmp 5), none, 0⟩] false) (.seq (.cond (.tmp 7) (.skip) (.exit 0)) (.seq (.block 1 none (.region [⟨some 8, .move (.tmp 0), none, 0⟩, ⟨some 9, .bin (.shr) (.tmp 8) (.val (.int .u64 1)), none, 1⟩, ⟨some 10, .move (.tmp 0), none, 0⟩, ⟨some 11, .bin (.and) (.tmp 10) (.val (.int .u32 1)), none, 4⟩, ⟨some 12, .un (.neg) (.tmp 11), none, 12⟩, ⟨some 13, .bin (.and) (.val (.int .u32 2197175160)) (.tmp 12), none, 28⟩, ⟨some 14, .bin (.xor) (.tmp 9) (.tmp 13), none, 63⟩, ⟨some 0, .assign (.tmp 14), none, 127⟩] false)) (.region [⟨some 15, .bin (.add) (.tmp 6) (.val (.int .i64 1)), none, 0⟩, ⟨some 6, .move (.tmp 15), none, 1⟩] false))))))) (.seq (.region [⟨some 16, .move (.tmp 0), none, 0⟩, ⟨some 4, .assign (.tmp 16), none, 1⟩] false) (.ret)))
abbrev v84 : VFunc := { nparams := 2, ntmps := 17, nsites := 0, results := [.tmp 4], body := b84 }
abbrev b74 : VCode := .seq (.region [⟨some 2, .assign (.val (.int .u32 0)), none, 0⟩] false) (.seq (.region [⟨some 3, .assign (.val (.int .u32 4294967295)), none, 0⟩] false) (.seq (.seq (.region [⟨some 8, .move (.tmp 0), none, 0⟩, ⟨some 9, .len (.slc 1) (.tmp 8), none, 1⟩, ⟨some 10, .move (.val (.int .i64 0)), none, 0⟩] false) (.block 0 (some [3]) (.loop (some [0, 3, 8, 9, 10]) (.seq (.region [⟨some 11, .bin (.lss) (.tmp 10) (.tmp 9), none, 0⟩] false) (.seq (.cond (.tmp 11) (.skip) (.exit 0)) (.seq (.block 1 (some [0, 3, 8, 9, 10]) (.seq (.region [⟨some 12, .indexAddr none 1 (.tmp 8) (.tmp 10), none, 0⟩, ⟨some 13, .load false 1 (.tmp 12), none, 1⟩, ⟨some 5, .assign (.tmp 13), none, 3⟩] false) (.seq (.region [⟨some 14, .move (.tmp 5), none, 0⟩, ⟨some 15, .len (.slc 1) (.tmp 14), none, 1⟩, ⟨some 16, .move (.val (.int .i64 0)), none, 0⟩] false) (.block 2 (some [0, 3, 8, 9, 10]) (.loop (some [0, 3, 5, 8, 9, 10, 12, 13, 14, 15, 16]) (.seq (.region [⟨some 17, .bin (.lss) (.tmp 16) (.tmp 15), none, 0⟩] false) (.seq (.cond (.tmp 17) (.skip) (.exit 2)) (.seq (.block 3 none (.seq (.region [⟨some 18, .indexAddr none 1 (.tmp 14) (.tmp 16), none, 0⟩, ⟨some 19, .load false 1 (.tmp 18), none, 1⟩, ⟨some 7, .assign (.tmp 19), none, 3⟩] false) (.region [⟨some 20, .move (.tmp 3), none, 0⟩, ⟨some 21, .move (.tmp 7), none, 0⟩, ⟨some 22, .conv (.int (.u32)) (.tmp 21), none, 2⟩, ⟨some 23, .bin (.xor) (.tmp 20) (.tmp 22), none, 7⟩, ⟨some 24, .call true 84 0 [(.tmp 23), (.val (.int .i64 8))], none, 15⟩, ⟨some 3, .assign (.tmp 24), none, 31⟩] false))) (.region [⟨some 25, .bin (.add) (.tmp 16) (.val (.int .i64 1)), none, 0⟩, ⟨some 16, .move (.tmp 25), none, 1⟩] false))))))))) (.region [⟨some 26, .bin (.add) (.tmp 10) (.val (.int .i64 1)), none, 0⟩, ⟨some 10, .move (.tmp 26), none, 1⟩] false))))))) (.seq (.region [⟨some 27, .move (.tmp 3), none, 0⟩, ⟨some 28, .un (.xor) (.tmp 27), none, 1⟩, ⟨some 2, .assign (.tmp 28), none, 3⟩] false) (.ret))))
abbrev v74 : VFunc := { nparams := 1, ntmps := 29, nsites := 0, results := [.tmp 2], body := b74 }
abbrev b87 : VCode := .seq (.region [⟨some 2, .assign (.val (.int .u64 0)), none, 0⟩] false) (.seq (.seq (.region [⟨some 3, .move (.tmp 0), none, 0⟩, ⟨some 4, .bin (.rem) (.tmp 3) (.val (.int .u64 2)), none, 1⟩, ⟨some 5, .eq false (.num) (.tmp 4) (.val (.int .u64 1)), none, 3⟩] false) (.cond (.tmp 5) (.seq (.region [⟨some 6, .move (.tmp 0), none, 0⟩, ⟨some 7, .bin (.quo) (.tmp 6) (.val (.int .u64 2)), none, 1⟩, ⟨some 8, .bin (.xor) (.tmp 7) (.val (.int .u64 2197175160)), none, 3⟩, ⟨some 2, .assign (.tmp 8), none, 7⟩] false) (.ret)) (.skip))) (.seq (.region [⟨some 9, .move (.tmp 0), none, 0⟩, ⟨some 10, .bin (.quo) (.tmp 9) (.val (.int .u64 2)), none, 1⟩, ⟨some 2, .assign (.tmp 10), none, 3⟩] false) (.ret)))
abbrev v87 : VFunc := { nparams := 1, ntmps := 11, nsites := 0, results := [.tmp 2], body := b87 }
def poly : Nat := 2197175160
def stepN (n : Nat) : Nat := if n % 2 = 1 then (n / 2) ^^^ poly else n / 2
theorem stepN_lt (n : Nat) (h : n < 2 ^ 32) : stepN n < 2 ^ 32 := by
  unfold stepN
  split
  · exact Nat.xor_lt_two_pow (by omega) (by decide)
  · omega
def halN : Nat → Nat → Nat
  | 0, n => n
  | k + 1, n => halN k (stepN n)
theorem halN_lt : ∀ (k n : Nat), n < 2 ^ 32 → halN k n < 2 ^ 32
  | 0, n, h => h
  | k + 1, n, h => halN_lt k _ (stepN_lt n h)
def onB (n : Nat) (x : Nat) : Nat := halN 8 (n ^^^ x)
theorem onB_lt (n x : Nat) (h : n < 2 ^ 32) (hx : x < 256) : onB n x < 2 ^ 32 := halN_lt _ _ (Nat.xor_lt_two_pow h (by omega))
def crcN (n : Nat) (l : List Nat) : Nat := l.foldl onB n
def crc (l : List Nat) : Nat := 4294967295 - crcN 4294967295 l
def x55 (n : Int) : Int := IntKind.u32.wrap (BitVec.ofInt 32 (n.fdiv (2 ^ 1)) ^^^ BitVec.ofInt 32 (IntKind.u32.wrap (BitVec.ofInt 32 2197175160 &&& BitVec.ofInt 32 (IntKind.u32.wrap (0 - IntKind.u32.wrap (BitVec.ofInt 32 n &&& BitVec.ofInt 32 1).toNat))).toNat)).toNat
theorem x55_eq (n : Nat) (h : n < 2 ^ 32) : x55 n = stepN n := by
  have e1 : (n : Int).fdiv (2 ^ 1) = ((n / 2 : Nat) : Int) := by rw [Int.fdiv_eq_ediv_of_nonneg _ (by decide)]; rfl
  have e2 : (BitVec.ofInt 32 (n : Int) &&& BitVec.ofInt 32 1).toNat = n % 2 := by
    rw [show (1 : Int) = ((1 : Nat) : Int) from rfl, andN n 1 h (by decide), Nat.and_one_is_mod]
  unfold x55 stepN
  rw [e1, e2]
  rcases Nat.mod_two_eq_zero_or_one n with h0 | h0
  · have e3 : (BitVec.ofInt 32 2197175160 &&& BitVec.ofInt 32 (IntKind.u32.wrap (0 - IntKind.u32.wrap ((0 : Nat) : Int)))).toNat = 0 := by decide
    rw [h0, e3, if_neg (by decide), wrap32 0 (by decide), xorN _ _ (by omega) (by decide), Nat.xor_zero, wrap32 _ (by omega)]
  · have e3 : (BitVec.ofInt 32 2197175160 &&& BitVec.ofInt 32 (IntKind.u32.wrap (0 - IntKind.u32.wrap ((1 : Nat) : Int)))).toNat = poly := by decide
    rw [h0, e3, if_pos rfl, wrap32 poly (by decide), xorN _ _ (by omega) (by decide), wrap32 _ (Nat.xor_lt_two_pow (by omega) (by decide))]
section
variable (G : VProg)
theorem halves (hG : G 84 = some (.code v84)) (n : Nat) (hn : n < 2 ^ 32) : lim G 84 [.int .u32 n, .int .i64 8] [] = some (.int .u32 (halN 8 n : Nat), []) := by
  refine lim_fun hG (h := runV trivial trivial ?_)
  refine WL_loop (fun a : Nat × Nat => ⟨(.int .u32 (a.2 : Nat) :: .int .i64 8 :: .gone 0 :: .gone 0 :: .gone 0 :: .int .i64 8 :: .int .i64 (a.1 : Nat) :: .gone 0 :: .gone 0 :: .gone 0 :: .gone 0 :: .gone 0 :: .gone 0 :: .gone 0 :: .gone 0 :: .gone 0 :: .gone 0 :: []), []⟩) (fun a => a.1 ≤ 8 ∧ a.2 < 2 ^ 32 ∧ halN (8 - a.1) a.2 = halN 8 n) (fun a => 8 - a.1) ?_ (0, n) _ ⟨by omega, hn, rfl⟩ (by kernel_rfl)
  rintro ⟨i, x⟩ ⟨hi, hx, hh⟩
  simp only at hi hx hh ⊢
  by_cases h : i < 8
  · have hlt : decide ((i : Int) < 8) = true := by simp; omega
    have hadd := inc64 i (by omega)
    have e : 8 - i = 8 - (i + 1) + 1 := by omega
    rw [e] at hh
    refine runV (And.intro hlt hadd) trivial ?_
    refine Qr_n (i + 1, stepN x) ?_ ⟨⟨by simp only; omega, stepN_lt x hx, hh⟩, by simp only; omega⟩
    simp only [← x55_eq x hx]
    kernel_rfl
  · obtain rfl : i = 8 := by omega
    have hlt : decide (((8 : Nat) : Int) < 8) = false := by decide
    simp only [Nat.sub_self, halN] at hh
    subst hh
    refine runV hlt trivial ?_
    refine Qr_x ?_
    refine Qb_x (σ1 := ⟨(.int .u32 (halN 8 n : Nat) :: .gone 0 :: .gone 0 :: .gone 0 :: .gone 0 :: .gone 0 :: .gone 0 :: .gone 0 :: .gone 0 :: .gone 0 :: .gone 0 :: .gone 0 :: .gone 0 :: .gone 0 :: .gone 0 :: .gone 0 :: .gone 0 :: []), []⟩) (by kernel_rfl) ?_
    exact runV trivial trivial trivial
theorem step (hG : G 87 = some (.code v87)) (n : Nat) (hn : n < 2 ^ 32) : lim G 87 [.int .u64 n] [] = some (.int .u64 (stepN n : Nat), []) := by
  have e1 : IntKind.u64.wrap ((n : Int).tdiv 2) = ((n / 2 : Nat) : Int) := by
    rw [Int.tdiv_eq_ediv_of_nonneg (by omega)]
    exact wrap64 (n / 2) (by omega)
  have e4 : IntKind.u64.wrap (BitVec.ofInt IntKind.u64.bits ((n / 2 : Nat) : Int) ^^^ BitVec.ofInt IntKind.u64.bits 2197175160).toNat = ((n / 2) ^^^ poly : Nat) := by
    show IntKind.u64.wrap (BitVec.ofInt 64 ((n / 2 : Nat) : Int) ^^^ BitVec.ofInt 64 2197175160).toNat = _
    rw [show (2197175160 : Int) = ((poly : Nat) : Int) from rfl, xorN _ _ (by omega) (by decide), wrap64 _ (by
      have := Nat.xor_lt_two_pow (n := 32) (show n / 2 < 2 ^ 32 by omega) (show poly < 2 ^ 32 by decide)
      omega)]
  have e5 : (n : Int).tmod 2 = ((n % 2 : Nat) : Int) := by rw [Int.tmod_eq_emod_of_nonneg (by omega)]; rfl
  by_cases h : n % 2 = 1
  · have hs : stepN n = (n / 2) ^^^ poly := by unfold stepN; rw [if_pos h]
    have hc : ((n : Int).tmod 2 == 1) = true := by rw [e5, h]; rfl
    rw [hs]
    exact lim_fun hG (h := runV (And.intro hc (And.intro e1 e4)) trivial trivial)
  · have hs : stepN n = n / 2 := by unfold stepN; rw [if_neg h]
    have hc : ((n : Int).tmod 2 == 1) = false := by
      have : n % 2 = 0 := by omega
      rw [e5, this]; rfl
    rw [hs]
    exact lim_fun hG (h := runV (And.intro hc (And.intro e1 e4)) trivial trivial)
theorem not32 (n : Nat) (hn : n < 2 ^ 32) : IntKind.u32.wrap (BitVec.ofInt 32 IntKind.u32.max ^^^ BitVec.ofInt 32 (n : Int)).toNat = ((4294967295 - n : Nat) : Int) := by
  rw [show (IntKind.u32.max : Int) = ((4294967295 : Nat) : Int) from rfl]
  have e : (BitVec.ofInt 32 ((4294967295 : Nat) : Int) ^^^ BitVec.ofInt 32 (n : Int)).toNat = 4294967295 - n := by
    simp only [BitVec.ofInt_natCast]
    have h1 : BitVec.ofNat 32 4294967295 = BitVec.allOnes 32 := by decide
    rw [h1, BitVec.allOnes_xor, BitVec.toNat_not, BitVec.toNat_ofNat, Nat.mod_eq_of_lt hn]
  rw [e, wrap32 _ (by omega)]
theorem crcN_at (l : List Nat) (n i : Nat) (h : i < l.length) : crcN n (l.drop i) = crcN (onB n l[i]) (l.drop (i + 1)) := by rw [List.drop_eq_getElem_cons h]; rfl
theorem of1 (hG : G 74 = some (.code v74)) (h55 : ∀ n : Nat, n < 2 ^ 32 → lim G 84 [.int .u32 n, .int .i64 8] [] = some (.int .u32 (halN 8 n : Nat), []))
    (l : List Nat) (hl : l.length < 2 ^ 40) (hb : ∀ x ∈ l, x < 256) : lim G 74 [.isl 0 1 [.isl 0 1 (byN l)]] [] = some (.int .u32 (crc l : Nat), []) := by
  have h0 : IntKind.u32.wrap (BitVec.ofInt IntKind.u32.bits (if IntKind.u32.signed = true then -1 else IntKind.u32.max) ^^^ BitVec.ofInt IntKind.u32.bits 0).toNat = ((4294967295 : Nat) : Int) := by decide
  refine lim_fun hG (h := runV h0 trivial ?_)
  refine WL_unroll (σ1 := ⟨(.isl 0 1 [.isl 0 1 (byN l)] :: .gone 0 :: .gone 0 :: .int .u32 4294967295 :: .gone 0 :: .gone 0 :: .gone 0 :: .gone 0 :: .isl 0 1 [.isl 0 1 (byN l)] :: .int .i64 (1 : Nat) :: .int .i64 0 :: .gone 0 :: .gone 0 :: .gone 0 :: .gone 0 :: .gone 0 :: .gone 0 :: .gone 0 :: .gone 0 :: .gone 0 :: .gone 0 :: .gone 0 :: .gone 0 :: .gone 0 :: .gone 0 :: .gone 0 :: .gone 0 :: .gone 0 :: .gone 0 :: []), []⟩) (by kernel_rfl) ?_
  refine runV trivial trivial ?_
  refine WL_loop (fun a : Nat × Nat => ⟨(.isl 0 1 [.isl 0 1 (byN l)] :: .gone 0 :: .gone 0 :: .int .u32 (a.2 : Nat) :: .gone 0 :: .isl 0 1 (byN l) :: .gone 0 :: .gone 0 :: .isl 0 1 [.isl 0 1 (byN l)] :: .int .i64 (1 : Nat) :: .int .i64 0 :: .gone 0 :: .iptr [.isl 0 1 (byN l)] :: .isl 0 1 (byN l) :: .isl 0 1 (byN l) :: .int .i64 l.length :: .int .i64 (a.1 : Nat) :: .gone 0 :: .gone 0 :: .gone 0 :: .gone 0 :: .gone 0 :: .gone 0 :: .gone 0 :: .gone 0 :: .gone 0 :: .gone 0 :: .gone 0 :: .gone 0 :: []), []⟩)
    (fun a => a.1 ≤ l.length ∧ a.2 < 2 ^ 32 ∧ crcN a.2 (l.drop a.1) = crcN 4294967295 l) (fun a => l.length - a.1) ?_ (0, 4294967295) _ ⟨by omega, by decide, rfl⟩ (by kernel_rfl)
  rintro ⟨i, x⟩ ⟨hi, hx, hh⟩
  simp only at hi hx hh ⊢
  by_cases h : i < l.length
  · have hlt : decide ((i : Int) < (l.length : Int)) = true := by simp; omega
    have hadd := inc64 i (by omega)
    have hg := byN_get l i h
    have hbi := hb _ (List.getElem_mem h)
    have hw : IntKind.u32.wrap (BitVec.ofInt IntKind.u32.bits (x : Int) ^^^ BitVec.ofInt IntKind.u32.bits (IntKind.u32.wrap ((l[i] : Nat) : Int))).toNat = ((x ^^^ l[i] : Nat) : Int) := by
      show IntKind.u32.wrap (BitVec.ofInt 32 (x : Int) ^^^ BitVec.ofInt 32 (IntKind.u32.wrap ((l[i] : Nat) : Int))).toNat = _
      rw [wrap32 l[i] (by omega), xorN _ _ hx (by omega), wrap32 _ (Nat.xor_lt_two_pow hx (by omega))]
    have hc := h55 (x ^^^ l[i]) (Nat.xor_lt_two_pow hx (by omega))
    rw [crcN_at l x i h] at hh
    refine runV (And.intro hlt (And.intro hadd (And.intro hg hw))) trivial ?_
    exact Qr_n (i + 1, onB x l[i]) (by kernel_rfl) ⟨⟨by simp only; omega, onB_lt x l[i] hx hbi, hh⟩, by simp only; omega⟩
  · obtain rfl : i = l.length := by omega
    have hlt : decide ((l.length : Int) < (l.length : Int)) = false := by simp
    rw [List.drop_length] at hh
    have hhx : x = crcN 4294967295 l := hh
    subst hhx
    refine runV hlt trivial ?_
    refine Qr_x ?_
    refine Qb_x (σ1 := ⟨(.isl 0 1 [.isl 0 1 (byN l)] :: .gone 0 :: .gone 0 :: .int .u32 (crcN 4294967295 l : Nat) :: .gone 0 :: .gone 0 :: .gone 0 :: .gone 0 :: .isl 0 1 [.isl 0 1 (byN l)] :: .int .i64 (1 : Nat) :: .int .i64 0 :: .gone 0 :: .gone 0 :: .gone 0 :: .gone 0 :: .gone 0 :: .gone 0 :: .gone 0 :: .gone 0 :: .gone 0 :: .gone 0 :: .gone 0 :: .gone 0 :: .gone 0 :: .gone 0 :: .gone 0 :: .gone 0 :: .gone 0 :: .gone 0 :: []), []⟩) (by kernel_rfl) ?_
    refine Qb_n (σ1 := ⟨(.isl 0 1 [.isl 0 1 (byN l)] :: .gone 0 :: .gone 0 :: .int .u32 (crcN 4294967295 l : Nat) :: .gone 0 :: .gone 0 :: .gone 0 :: .gone 0 :: .isl 0 1 [.isl 0 1 (byN l)] :: .int .i64 (1 : Nat) :: .int .i64 0 :: .gone 0 :: .gone 0 :: .gone 0 :: .gone 0 :: .gone 0 :: .gone 0 :: .gone 0 :: .gone 0 :: .gone 0 :: .gone 0 :: .gone 0 :: .gone 0 :: .gone 0 :: .gone 0 :: .gone 0 :: .gone 0 :: .gone 0 :: .gone 0 :: []), []⟩) (by kernel_rfl) ?_
    have e1 : IntKind.i64.wrap (0 + 1) = ((1 : Nat) : Int) := by decide
    have hlt1 : decide (((1 : Nat) : Int) < ((1 : Nat) : Int)) = false := by decide
    refine runV e1 trivial ?_
    refine Qu_n ?_
    refine WL_unroll (σ1 := ⟨(.isl 0 1 [.isl 0 1 (byN l)] :: .gone 0 :: .gone 0 :: .int .u32 (crcN 4294967295 l : Nat) :: .gone 0 :: .gone 0 :: .gone 0 :: .gone 0 :: .isl 0 1 [.isl 0 1 (byN l)] :: .int .i64 (1 : Nat) :: .int .i64 (1 : Nat) :: .gone 0 :: .gone 0 :: .gone 0 :: .gone 0 :: .gone 0 :: .gone 0 :: .gone 0 :: .gone 0 :: .gone 0 :: .gone 0 :: .gone 0 :: .gone 0 :: .gone 0 :: .gone 0 :: .gone 0 :: .gone 0 :: .gone 0 :: .gone 0 :: []), []⟩) (by kernel_rfl) ?_
    refine runV hlt1 trivial ?_
    refine Qu_x ?_
    refine Qb_x (σ1 := ⟨(.gone 0 :: .gone 0 :: .gone 0 :: .int .u32 (crcN 4294967295 l : Nat) :: .gone 0 :: .gone 0 :: .gone 0 :: .gone 0 :: .gone 0 :: .gone 0 :: .gone 0 :: .gone 0 :: .gone 0 :: .gone 0 :: .gone 0 :: .gone 0 :: .gone 0 :: .gone 0 :: .gone 0 :: .gone 0 :: .gone 0 :: .gone 0 :: .gone 0 :: .gone 0 :: .gone 0 :: .gone 0 :: .gone 0 :: .gone 0 :: .gone 0 :: []), []⟩) (by kernel_rfl) ?_
    have hn : IntKind.u32.wrap (BitVec.ofInt IntKind.u32.bits (if IntKind.u32.signed = true then -1 else IntKind.u32.max) ^^^ BitVec.ofInt IntKind.u32.bits ((crcN 4294967295 l : Nat) : Int)).toNat = ((crc l : Nat) : Int) := not32 _ hx
    exact runV hn trivial trivial
end
end P1
end Go.Vq
namespace Go.Vq
namespace P1
open Go
set_option maxRecDepth 1000000
set_option maxHeartbeats 4000000
abbrev b82 : VCode := .seq (.region [⟨some 4, .assign (.val (.int .u64 0)), none, 0⟩, ⟨some 5, .assign (.val (.int .i64 0)), none, 1⟩] false) (.seq (.region [⟨some 6, .assign (.val (.int .u64 0)), none, 0⟩] false) (.seq (.seq (.region [⟨some 10, .move (.tmp 0), none, 0⟩, ⟨some 11, .len (.slc 1) (.tmp 10), none, 1⟩, ⟨some 12, .move (.val (.int .i64 0)), none, 0⟩] false) (.block 0 (some []) (.loop (some [0, 1, 6, 10, 11, 12]) (.seq (.region [⟨some 13, .bin (.lss) (.tmp 12) (.tmp 11), none, 0⟩] false) (.seq (.cond (.tmp 13) (.skip) (.exit 0)) (.seq (.block 1 none (.seq (.region [⟨some 14, .move (.tmp 12), none, 0⟩, ⟨some 15, .indexAddr none 1 (.tmp 10) (.tmp 12), none, 0⟩, ⟨some 16, .load false 1 (.tmp 15), none, 2⟩, ⟨some 7, .assign (.tmp 14), none, 7⟩, ⟨some 8, .assign (.tmp 16), none, 15⟩] false) (.seq (.region [⟨some 17, .move (.tmp 8), none, 0⟩, ⟨some 18, .bin (.and) (.tmp 17) (.val (.int .u8 127)), none, 1⟩, ⟨some 19, .conv (.int (.u64)) (.tmp 18), none, 3⟩, ⟨some 9, .assign (.tmp 19), none, 7⟩] false) (.seq (.seq (.region [⟨some 20, .move (.tmp 7), none, 0⟩, ⟨some 21, .eq false (.num) (.tmp 20) (.val (.int .i64 9)), none, 1⟩, ⟨some 22, .move (.tmp 21), none, 3⟩, ⟨some 23, .move (.tmp 8), some (22, true), 7⟩, ⟨some 24, .bin (.gtr) (.tmp 23) (.val (.int .u8 1)), some (22, true), 15⟩, ⟨some 25, .pick (.tmp 22) (.tmp 24) (.val (.bool false)), none, 31⟩, ⟨some 26, .move (.tmp 25), none, 63⟩, ⟨some 27, .move (.tmp 7), some (26, false), 127⟩, ⟨some 28, .bin (.gtr) (.tmp 27) (.val (.int .i64 0)), some (26, false), 255⟩, ⟨some 29, .move (.tmp 28), some (26, false), 511⟩, ⟨some 30, .move (.tmp 8), some (29, true), 1023⟩, ⟨some 31, .eq false (.num) (.tmp 30) (.val (.int .u8 0)), some (29, true), 2047⟩, ⟨some 32, .pick (.tmp 29) (.tmp 31) (.val (.bool false)), some (26, false), 4095⟩, ⟨some 33, .pick (.tmp 26) (.val (.bool true)) (.tmp 32), none, 8191⟩, ⟨some 34, .move (.tmp 33), none, 16383⟩, ⟨some 35, .move (.tmp 9), some (34, false), 32767⟩, ⟨some 36, .move (.tmp 1), some (34, false), 32767⟩, ⟨some 37, .move (.tmp 7), some (34, false), 32767⟩, ⟨some 38, .bin (.mul) (.val (.int .i64 7)) (.tmp 37), some (34, false), 163839⟩, ⟨some 39, .bin (.shr) (.tmp 36) (.tmp 38), some (34, false), 491519⟩, ⟨some 40, .bin (.gtr) (.tmp 35) (.tmp 39), some (34, false), 1048575⟩, ⟨some 41, .pick (.tmp 34) (.val (.bool true)) (.tmp 40), none, 2097151⟩] false) (.cond (.tmp 41) (.seq (.region [⟨some 4, .assign (.val (.int .u64 0)), none, 0⟩, ⟨some 5, .assign (.val (.int .i64 (-1))), none, 1⟩] false) (.ret)) (.skip))) (.seq (.region [⟨some 42, .move (.tmp 6), none, 0⟩, ⟨some 43, .move (.tmp 9), none, 0⟩, ⟨some 44, .move (.tmp 7), none, 0⟩, ⟨some 45, .bin (.mul) (.val (.int .i64 7)) (.tmp 44), none, 4⟩, ⟨some 46, .bin (.shl) (.tmp 43) (.tmp 45), none, 14⟩, ⟨some 47, .bin (.or) (.tmp 42) (.tmp 46), none, 31⟩, ⟨some 6, .assign (.tmp 47), none, 63⟩] false) (.seq (.seq (.region [⟨some 48, .move (.tmp 6), none, 0⟩, ⟨some 49, .move (.tmp 1), none, 0⟩, ⟨some 50, .bin (.gtr) (.tmp 48) (.tmp 49), none, 3⟩] false) (.cond (.tmp 50) (.seq (.region [⟨some 4, .assign (.val (.int .u64 0)), none, 0⟩, ⟨some 5, .assign (.val (.int .i64 (-1))), none, 1⟩] false) (.ret)) (.skip))) (.seq (.seq (.region [⟨some 51, .move (.tmp 8), none, 0⟩, ⟨some 52, .bin (.lss) (.tmp 51) (.val (.int .u8 128)), none, 1⟩] false) (.cond (.tmp 52) (.seq (.region [⟨some 53, .move (.tmp 6), none, 0⟩, ⟨some 54, .move (.tmp 7), none, 0⟩, ⟨some 55, .bin (.add) (.tmp 54) (.val (.int .i64 1)), none, 2⟩, ⟨some 4, .assign (.tmp 53), none, 1⟩, ⟨some 5, .assign (.tmp 55), none, 15⟩] false) (.ret)) (.skip))) (.seq (.region [⟨some 56, .move (.tmp 1), none, 0⟩, ⟨some 57, .move (.tmp 6), none, 0⟩, ⟨some 58, .bin (.sub) (.tmp 56) (.tmp 57), none, 3⟩, ⟨some 59, .move (.tmp 7), none, 0⟩, ⟨some 60, .bin (.add) (.tmp 59) (.val (.int .i64 1)), none, 8⟩, ⟨some 61, .bin (.mul) (.val (.int .i64 7)) (.tmp 60), none, 24⟩, ⟨some 62, .bin (.shl) (.val (.int .u64 1)) (.tmp 61), none, 56⟩, ⟨some 63, .bin (.lss) (.tmp 58) (.tmp 62), none, 127⟩] false) (.cond (.tmp 63) (.seq (.region [⟨some 4, .assign (.val (.int .u64 0)), none, 0⟩, ⟨some 5, .assign (.val (.int .i64 (-1))), none, 1⟩] false) (.ret)) (.skip)))))))))) (.region [⟨some 64, .bin (.add) (.tmp 12) (.val (.int .i64 1)), none, 0⟩, ⟨some 12, .move (.tmp 64), none, 1⟩] false))))))) (.seq (.region [⟨some 4, .assign (.val (.int .u64 0)), none, 0⟩, ⟨some 5, .assign (.val (.int .i64 0)), none, 1⟩] false) (.ret))))
abbrev v82 : VFunc := { nparams := 2, ntmps := 65, nsites := 0, results := [.tmp 4, .tmp 5], body := b82 }
def dec (lim : Nat) : Nat → Nat → List Nat → Int × Int
  | _, _, [] => (0, 0)
  | i, n, x :: r =>
    if (i = 9 ∧ 1 < x) ∨ (0 < i ∧ x = 0) ∨ lim < n + x % 128 * 2 ^ (7 * i) then (0, -1)
    else if x < 128 then (((n + x % 128 * 2 ^ (7 * i) : Nat) : Int), ((i + 1 : Nat) : Int))
    else if lim - (n + x % 128 * 2 ^ (7 * i)) < 2 ^ (7 * (i + 1)) then (0, -1)
    else dec lim (i + 1) (n + x % 128 * 2 ^ (7 * i)) r
theorem dec_cons (lim i n x : Nat) (r : List Nat) : dec lim i n (x :: r) = if (i = 9 ∧ 1 < x) ∨ (0 < i ∧ x = 0) ∨ lim < n + x % 128 * 2 ^ (7 * i) then (0, -1)
    else if x < 128 then (((n + x % 128 * 2 ^ (7 * i) : Nat) : Int), ((i + 1 : Nat) : Int))
    else if lim - (n + x % 128 * 2 ^ (7 * i)) < 2 ^ (7 * (i + 1)) then (0, -1)
    else dec lim (i + 1) (n + x % 128 * 2 ^ (7 * i)) r := by rw [dec]
theorem and127 (x : Nat) (hx : x < 256) : IntKind.u8.wrap (BitVec.ofInt IntKind.u8.bits (x : Int) &&& BitVec.ofInt IntKind.u8.bits 127).toNat = ((x % 128 : Nat) : Int) := by
  have e : (BitVec.ofInt 8 (x : Int) &&& BitVec.ofInt 8 127).toNat = x % 128 := by
    rw [show (127 : Int) = ((127 : Nat) : Int) from rfl, andN x 127 hx (by decide)]
    exact Nat.and_two_pow_sub_one_eq_mod x 7
  have : IntKind.u8.wrap (((BitVec.ofInt 8 (x : Int) &&& BitVec.ofInt 8 127).toNat : Nat) : Int) = ((x % 128 : Nat) : Int) := by
    rw [e, wrap8]; omega
  exact this
theorem pow_cast (i : Nat) (hi : 7 * i ≤ 64) : (2 : Int) ^ min (7 * i) IntKind.u64.bits = ((2 ^ (7 * i) : Nat) : Int) := by
  have e : min (7 * i) IntKind.u64.bits = 7 * i := Nat.min_eq_left hi
  rw [e, Int.natCast_pow]
  rfl
theorem pow_lt64 {i : Nat} (hi : 7 * i ≤ 63) : 2 ^ (7 * i) < 2 ^ 64 := Nat.pow_lt_pow_right (by decide) (by omega)
theorem or64 (n p i : Nat) (hn : n < 2 ^ (7 * i)) (hs : n + p * 2 ^ (7 * i) < 2 ^ 64) : IntKind.u64.wrap (BitVec.ofInt IntKind.u64.bits (n : Int) ||| BitVec.ofInt IntKind.u64.bits ((p * 2 ^ (7 * i) : Nat) : Int)).toNat = ((n + p * 2 ^ (7 * i) : Nat) : Int) := by
  have e : (BitVec.ofInt 64 (n : Int) ||| BitVec.ofInt 64 ((p * 2 ^ (7 * i) : Nat) : Int)).toNat = n + p * 2 ^ (7 * i) := by
    rw [orN _ _ (by omega) (by omega), Nat.or_comm, Nat.mul_comm p, ← Nat.two_pow_add_eq_or_of_lt hn, Nat.add_comm]
  have : IntKind.u64.wrap (((BitVec.ofInt 64 (n : Int) ||| BitVec.ofInt 64 ((p * 2 ^ (7 * i) : Nat) : Int)).toNat : Nat) : Int) = ((n + p * 2 ^ (7 * i) : Nat) : Int) := by
    rw [e, wrap64 _ hs]
  exact this
section
variable (G : VProg)
theorem number (hG : G 82 = some (.code v82)) (l : List Nat) (lim : Nat) (hl : l.length < 2 ^ 40) (hb : ∀ x ∈ l, x < 256) (hlim : lim < 2 ^ 64) :
    Vq.lim G 82 [.isl 0 1 (byN l), .int .u64 lim] [] = some (.tup [.int .u64 (dec lim 0 0 l).1, .int .i64 (dec lim 0 0 l).2], []) := by
  refine lim_fun hG (h := runV trivial trivial ?_)
  refine WL_loop (fun a : Nat × Nat => ⟨(.isl 0 1 (byN l) :: .int .u64 lim :: .gone 0 :: .gone 0 :: .gone 0 :: .gone 0 :: .int .u64 (a.2 : Nat) :: .gone 0 :: .gone 0 :: .gone 0 :: .isl 0 1 (byN l) :: .int .i64 l.length :: .int .i64 (a.1 : Nat) :: .gone 0 :: .gone 0 :: .gone 0 :: .gone 0 :: .gone 0 :: .gone 0 :: .gone 0 :: .gone 0 :: .gone 0 :: .gone 0 :: .gone 0 :: .gone 0 :: .gone 0 :: .gone 0 :: .gone 0 :: .gone 0 :: .gone 0 :: .gone 0 :: .gone 0 :: .gone 0 :: .gone 0 :: .gone 0 :: .gone 0 :: .gone 0 :: .gone 0 :: .gone 0 :: .gone 0 :: .gone 0 :: .gone 0 :: .gone 0 :: .gone 0 :: .gone 0 :: .gone 0 :: .gone 0 :: .gone 0 :: .gone 0 :: .gone 0 :: .gone 0 :: .gone 0 :: .gone 0 :: .gone 0 :: .gone 0 :: .gone 0 :: .gone 0 :: .gone 0 :: .gone 0 :: .gone 0 :: .gone 0 :: .gone 0 :: .gone 0 :: .gone 0 :: .gone 0 :: []), []⟩)
    (fun a => a.1 ≤ l.length ∧ a.1 ≤ 9 ∧ a.2 < 2 ^ (7 * a.1) ∧ dec lim a.1 a.2 (l.drop a.1) = dec lim 0 0 l) (fun a => l.length - a.1) ?_ (0, 0) _ ⟨by omega, by omega, by simp, rfl⟩ (by kernel_rfl)
  rintro ⟨i, n⟩ ⟨hi, hi9, hn, hh⟩
  simp only at hi hi9 hn hh ⊢
  by_cases h : i < l.length
  · have hlt : decide ((i : Int) < (l.length : Int)) = true := by simp; omega
    have hadd := inc64 i (by omega)
    have hg := byN_get l i h
    have hx := hb _ (List.getElem_mem h)
    have hp := and127 l[i] hx
    have hp2 : IntKind.u64.wrap ((l[i] % 128 : Nat) : Int) = ((l[i] % 128 : Nat) : Int) := wrap64 _ (by omega)
    have h7 : IntKind.i64.wrap (7 * (i : Int)) = ((7 * i : Nat) : Int) := by rw [wrapi64 _ (by omega) (by omega)]; omega
    rw [List.drop_eq_getElem_cons h, dec_cons] at hh
    obtain ⟨x, hxd⟩ : ∃ x, x = l[i] := ⟨_, rfl⟩
    rw [← hxd] at hg hx hp hp2 hh
    clear hxd
    have hend : ∀ {r1 r2 : Int} {σ : St} {J : Nat × Nat → Prop} {S : Nat × Nat → St}, (r1, r2) = dec lim 0 0 l → finish v82 0 σ = some (.tup [.int .u64 r1, .int .i64 r2], []) → Qrnd (some [0, 1, 6, 10, 11, 12]) 0 S J (Qblk 0 0 (some []) (Qseq (Vq.lim G) (itersOf G) (limX G) 0 ((VCode.region [{ dst := some 4, op := VOp.assign (Opd.val (V.int IntKind.u64 0)), guard := none, before := 0 }, { dst := some 5, op := VOp.assign (Opd.val (V.int IntKind.i64 0)), guard := none, before := 1 }] false).seq VCode.ret) (Qend v82 0 (some (.tup [.int .u64 (dec lim 0 0 l).1, .int .i64 (dec lim 0 0 l).2], []))))) .ret σ := by
      intro r1 r2 σ J S he hf
      rw [← he]
      exact Qr_r (Qb_r (Qs_r (Qe_r hf)))
    obtain ⟨b1, c1⟩ : ∃ b, ((i : Int) == 9) = b := ⟨_, rfl⟩
    obtain ⟨b2, c2⟩ : ∃ b, decide (1 < (x : Int)) = b := ⟨_, rfl⟩
    obtain ⟨b3, c3⟩ : ∃ b, decide (0 < (i : Int)) = b := ⟨_, rfl⟩
    obtain ⟨b4, c4⟩ : ∃ b, ((x : Int) == 0) = b := ⟨_, rfl⟩
    have F := And.intro hlt (And.intro hadd (And.intro hg (And.intro hp (And.intro hp2 (And.intro h7 (And.intro c1 (And.intro c2 (And.intro c3 c4))))))))
    have c1' : b1 = true ↔ i = 9 := by rw [← c1]; simp; omega
    have c2' : b2 = true ↔ 1 < x := by rw [← c2]; simp; omega
    have c3' : b3 = true ↔ 0 < i := by rw [← c3]; simp
    have c4' : b4 = true ↔ x = 0 := by rw [← c4]; simp
    by_cases h1 : (i = 9 ∧ 1 < x) ∨ (0 < i ∧ x = 0)
    · rw [if_pos (by rcases h1 with h1 | h1; · exact .inl h1
                     · exact .inr (.inl h1))] at hh
      cases b1 <;> cases b2 <;> cases b3 <;> cases b4
      all_goals first
        | (exfalso; simp only [Bool.false_eq_true, false_iff, true_iff] at c1' c2' c3' c4'; omega)
        | (refine runV F trivial ?_; exact hend hh (by kernel_rfl))
    have hpos : 0 < 2 ^ (7 * i) := Nat.two_pow_pos _
    have hshr : (lim : Int).fdiv (2 ^ min (7 * i) IntKind.u64.bits) = ((lim / 2 ^ (7 * i) : Nat) : Int) := by
      rw [pow_cast i (by omega), Int.fdiv_eq_ediv_of_nonneg _ (by omega)]
      rfl
    by_cases h5 : lim / 2 ^ (7 * i) < x % 128
    · have : lim < x % 128 * 2 ^ (7 * i) := (Nat.div_lt_iff_lt_mul hpos).1 h5
      rw [if_pos (.inr (.inr (by omega)))] at hh
      have c5 : decide (((lim / 2 ^ (7 * i) : Nat) : Int) < ((x % 128 : Nat) : Int)) = true := decide_eq_true (Int.ofNat_lt.2 h5)
      replace F := And.intro hshr (And.intro c5 F)
      cases b1 <;> cases b2 <;> cases b3 <;> cases b4
      all_goals first
        | (exfalso; simp only [Bool.false_eq_true, false_iff, true_iff] at c1' c2' c3' c4'; omega)
        | (refine runV F trivial ?_; exact hend hh (by kernel_rfl))
    have h5' : x % 128 * 2 ^ (7 * i) ≤ lim := by
      rcases Nat.lt_or_ge lim (x % 128 * 2 ^ (7 * i)) with h | h
      · exact absurd ((Nat.div_lt_iff_lt_mul hpos).2 h) h5
      · exact h
    have hshl : IntKind.u64.wrap (((x % 128 : Nat) : Int) * 2 ^ min (7 * i) IntKind.u64.bits) = ((x % 128 * 2 ^ (7 * i) : Nat) : Int) := by
      rw [pow_cast i (by omega), ← Int.natCast_mul]
      exact wrap64 _ (by omega)
    have hbound : n + x % 128 * 2 ^ (7 * i) < 2 ^ (7 * (i + 1)) := by
      have e : 2 ^ (7 * (i + 1)) = 128 * 2 ^ (7 * i) := by rw [show 7 * (i + 1) = 7 * i + 7 by omega, Nat.pow_add, Nat.mul_comm]
      have h2 : (x % 128 + 1) * 2 ^ (7 * i) ≤ 128 * 2 ^ (7 * i) := Nat.mul_le_mul_right _ (by omega)
      rw [Nat.add_mul, Nat.one_mul] at h2
      omega
    have hb64 : n + x % 128 * 2 ^ (7 * i) < 2 ^ 64 := by
      by_cases h9 : i = 9
      · subst h9
        have hle : x % 128 ≤ 1 := by omega
        have h3 : x % 128 * 2 ^ (7 * 9) ≤ 1 * 2 ^ (7 * 9) := Nat.mul_le_mul_right _ hle
        have h4 : (2 : Nat) ^ (7 * 9) = 9223372036854775808 := by decide
        have h5 : (2 : Nat) ^ 64 = 18446744073709551616 := by decide
        omega
      · have := pow_lt64 (i := i + 1) (by omega)
        omega
    have hor := or64 n (x % 128) i hn hb64
    have c5 : decide (((lim / 2 ^ (7 * i) : Nat) : Int) < ((x % 128 : Nat) : Int)) = false := decide_eq_false (by omega)
    replace F := And.intro hshr (And.intro c5 (And.intro hshl (And.intro hor F)))
    by_cases h6 : lim < n + x % 128 * 2 ^ (7 * i)
    · rw [if_pos (.inr (.inr h6))] at hh
      have c6 : decide ((lim : Int) < ((n + x % 128 * 2 ^ (7 * i) : Nat) : Int)) = true := decide_eq_true (by omega)
      replace F := And.intro c6 F
      cases b1 <;> cases b2 <;> cases b3 <;> cases b4
      all_goals first
        | (exfalso; simp only [Bool.false_eq_true, false_iff, true_iff] at c1' c2' c3' c4'; omega)
        | (refine runV F trivial ?_; exact hend hh (by kernel_rfl))
    rw [if_neg (by
      rintro (h | h | h)
      · exact h1 (.inl h)
      · exact h1 (.inr h)
      · exact h6 h)] at hh
    have c6 : decide ((lim : Int) < ((n + x % 128 * 2 ^ (7 * i) : Nat) : Int)) = false := decide_eq_false (by omega)
    by_cases h7 : x < 128
    · rw [if_pos h7] at hh
      have c7 : decide ((x : Int) < 128) = true := decide_eq_true (by omega)
      replace F := And.intro c7 (And.intro c6 F)
      cases b1 <;> cases b2 <;> cases b3 <;> cases b4
      all_goals first
        | (exfalso; simp only [Bool.false_eq_true, false_iff, true_iff] at c1' c2' c3' c4'; omega)
        | (refine runV F trivial ?_; exact hend hh (by kernel_rfl))
    rw [if_neg h7] at hh
    have h8i : i ≤ 8 := by omega
    have c7 : decide ((x : Int) < 128) = false := decide_eq_false (by omega)
    have hsub : IntKind.u64.wrap ((lim : Int) - ((n + x % 128 * 2 ^ (7 * i) : Nat) : Int)) = ((lim - (n + x % 128 * 2 ^ (7 * i)) : Nat) : Int) := by
      have e : (lim : Int) - ((n + x % 128 * 2 ^ (7 * i) : Nat) : Int) = ((lim - (n + x % 128 * 2 ^ (7 * i)) : Nat) : Int) := by omega
      rw [e, wrap64 _ (by omega)]
    have h71 : IntKind.i64.wrap (7 * ((i + 1 : Nat) : Int)) = ((7 * (i + 1) : Nat) : Int) := by rw [wrapi64 _ (by omega) (by omega)]; omega
    have hs1 : IntKind.u64.wrap (1 * 2 ^ min (7 * (i + 1)) IntKind.u64.bits) = ((2 ^ (7 * (i + 1)) : Nat) : Int) := by
      rw [pow_cast (i + 1) (by omega), Int.one_mul]
      exact wrap64 _ (pow_lt64 (by omega))
    replace F := And.intro h71 (And.intro hsub (And.intro hs1 (And.intro c7 (And.intro c6 F))))
    by_cases h8 : lim - (n + x % 128 * 2 ^ (7 * i)) < 2 ^ (7 * (i + 1))
    · rw [if_pos h8] at hh
      have c8 : decide (((lim - (n + x % 128 * 2 ^ (7 * i)) : Nat) : Int) < ((2 ^ (7 * (i + 1)) : Nat) : Int)) = true := decide_eq_true (by omega)
      replace F := And.intro c8 F
      cases b1 <;> cases b2 <;> cases b3 <;> cases b4
      all_goals first
        | (exfalso; simp only [Bool.false_eq_true, false_iff, true_iff] at c1' c2' c3' c4'; omega)
        | (refine runV F trivial ?_; exact hend hh (by kernel_rfl))
    rw [if_neg h8] at hh
    have c8 : decide (((lim - (n + x % 128 * 2 ^ (7 * i)) : Nat) : Int) < ((2 ^ (7 * (i + 1)) : Nat) : Int)) = false := decide_eq_false (by omega)
    replace F := And.intro c8 F
    obtain ⟨v, hv⟩ : ∃ v, v = n + x % 128 * 2 ^ (7 * i) := ⟨_, rfl⟩
    cases b1 <;> cases b2 <;> cases b3 <;> cases b4
    all_goals first
      | (exfalso; simp only [Bool.false_eq_true, false_iff, true_iff] at c1' c2' c3' c4'; omega)
      | (refine runV F trivial ?_; exact Qr_n (i + 1, n + x % 128 * 2 ^ (7 * i)) (by kernel_rfl) ⟨⟨by simp only; omega, by simp only; omega, hbound, hh⟩, by simp only; omega⟩)
  · obtain rfl : i = l.length := by omega
    have hlt : decide ((l.length : Int) < (l.length : Int)) = false := by simp
    rw [List.drop_length] at hh
    rw [← hh]
    refine runV hlt trivial ?_
    refine Qr_x ?_
    refine Qb_x (σ1 := ⟨(.gone 0 :: .gone 0 :: .gone 0 :: .gone 0 :: .gone 0 :: .gone 0 :: .gone 0 :: .gone 0 :: .gone 0 :: .gone 0 :: .gone 0 :: .gone 0 :: .gone 0 :: .gone 0 :: .gone 0 :: .gone 0 :: .gone 0 :: .gone 0 :: .gone 0 :: .gone 0 :: .gone 0 :: .gone 0 :: .gone 0 :: .gone 0 :: .gone 0 :: .gone 0 :: .gone 0 :: .gone 0 :: .gone 0 :: .gone 0 :: .gone 0 :: .gone 0 :: .gone 0 :: .gone 0 :: .gone 0 :: .gone 0 :: .gone 0 :: .gone 0 :: .gone 0 :: .gone 0 :: .gone 0 :: .gone 0 :: .gone 0 :: .gone 0 :: .gone 0 :: .gone 0 :: .gone 0 :: .gone 0 :: .gone 0 :: .gone 0 :: .gone 0 :: .gone 0 :: .gone 0 :: .gone 0 :: .gone 0 :: .gone 0 :: .gone 0 :: .gone 0 :: .gone 0 :: .gone 0 :: .gone 0 :: .gone 0 :: .gone 0 :: .gone 0 :: .gone 0 :: []), []⟩) (by kernel_rfl) ?_
    exact runV trivial trivial trivial
end
end P1
end Go.Vq
