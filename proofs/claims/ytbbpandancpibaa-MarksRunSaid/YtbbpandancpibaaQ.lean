/- The V-level machine, run on values that are not known (no law of Go is stated here). -/
import Derived.Test.YtbbpandancpibaaM
import Derived.KernelRfl
set_option linter.unusedVariables false
set_option linter.unusedSimpArgs false
set_option linter.unusedSectionVars false
namespace Go.Vq
namespace P1
open Go
set_option maxRecDepth 1000000
set_option maxHeartbeats 8000000
abbrev b14 : VCode := .seq (.region [⟨some 4, .assign (.val (.int .u64 0)), none, 0⟩, ⟨some 5, .assign (.val (.nilS 1)), none, 1⟩] false) (.seq (.seq (.region [⟨some 11, .move (.tmp 1), none, 0⟩, ⟨some 12, .bin (.lss) (.tmp 11) (.val (.int .i64 0)), none, 1⟩, ⟨some 13, .move (.tmp 12), none, 3⟩, ⟨some 14, .move (.tmp 1), some (13, false), 7⟩, ⟨some 15, .bin (.geq) (.tmp 14) (.val (.int .i64 2)), some (13, false), 15⟩, ⟨some 16, .pick (.tmp 13) (.val (.bool true)) (.tmp 15), none, 31⟩, ⟨some 17, .move (.tmp 16), none, 63⟩, ⟨some 18, .move (.tmp 0), some (17, false), 127⟩, ⟨some 19, .call false 28 0 [(.tmp 18)], some (17, false), 255⟩, ⟨some 20, .eq false (.num) (.tmp 19) (.val (.int .i64 0)), some (17, false), 511⟩, ⟨some 21, .pick (.tmp 17) (.val (.bool true)) (.tmp 20), none, 1023⟩] false) (.cond (.tmp 21) (.seq (.region [⟨some 4, .assign (.val (.int .u64 0)), none, 0⟩, ⟨some 5, .assign (.val (.nilS 1)), none, 1⟩] false) (.ret)) (.skip))) (.seq (.region [⟨some 22, .move (.tmp 0), none, 0⟩, ⟨some 23, .move (.tmp 1), none, 0⟩, ⟨some 24, .call false 49 0 [(.tmp 22), (.tmp 23), (.val (.int .i64 0))], none, 3⟩, ⟨some 25, .call true 48 0 [(.tmp 24)], none, 7⟩, ⟨some 6, .assign (.tmp 25), none, 15⟩] false) (.seq (.region [⟨some 26, .move (.tmp 6), none, 0⟩, ⟨some 27, .bin (.shr) (.tmp 26) (.val (.int .u64 16)), none, 1⟩, ⟨some 7, .assign (.tmp 27), none, 3⟩] false) (.seq (.seq (.region [⟨some 28, .move (.tmp 7), none, 0⟩, ⟨some 29, .bin (.lss) (.tmp 28) (.val (.int .u64 1)), none, 1⟩, ⟨some 30, .move (.tmp 29), none, 3⟩, ⟨some 31, .move (.tmp 7), some (30, false), 7⟩, ⟨some 32, .bin (.gtr) (.tmp 31) (.val (.int .u64 1099511627776)), some (30, false), 15⟩, ⟨some 33, .pick (.tmp 30) (.val (.bool true)) (.tmp 32), none, 31⟩, ⟨some 34, .move (.tmp 33), none, 63⟩, ⟨some 35, .move (.tmp 6), some (34, false), 127⟩, ⟨some 36, .move (.tmp 7), some (34, false), 127⟩, ⟨some 37, .call true 50 0 [(.tmp 36), (.val (.int .i64 0))], some (34, false), 383⟩, ⟨some 38, .eq true (.num) (.tmp 35) (.tmp 37), some (34, false), 1023⟩, ⟨some 39, .pick (.tmp 34) (.val (.bool true)) (.tmp 38), none, 2047⟩] false) (.cond (.tmp 39) (.seq (.region [⟨some 4, .assign (.val (.int .u64 0)), none, 0⟩, ⟨some 5, .assign (.val (.nilS 1)), none, 1⟩] false) (.ret)) (.skip))) (.seq (.region [⟨some 8, .assign (.val (.nilS 1)), none, 0⟩] false) (.seq (.seq (.region [⟨some 40, .move (.tmp 0), none, 0⟩, ⟨some 41, .call false 28 0 [(.tmp 40)], none, 1⟩, ⟨some 42, .move (.val (.int .i64 0)), none, 0⟩] false) (.block 0 (some [7, 8]) (.loop (some [0, 1, 7, 8, 41, 42]) (.seq (.region [⟨some 43, .bin (.lss) (.tmp 42) (.tmp 41), none, 0⟩] false) (.seq (.cond (.tmp 43) (.skip) (.exit 0)) (.seq (.block 1 none (.seq (.region [⟨some 44, .move (.tmp 42), none, 0⟩, ⟨some 9, .assign (.tmp 44), none, 1⟩] false) (.seq (.region [⟨some 45, .move (.tmp 0), none, 0⟩, ⟨some 46, .move (.tmp 1), none, 0⟩, ⟨some 47, .move (.tmp 9), none, 0⟩, ⟨some 48, .call false 49 0 [(.tmp 45), (.tmp 46), (.tmp 47)], none, 7⟩, ⟨some 10, .alloc 0 (Z8 64), none, 0⟩, ⟨none, .store 64 (.tmp 10) (.tmp 48), none, 31⟩] false) (.seq (.seq (.region [⟨some 49, .load true 64 (.tmp 10), none, 0⟩, ⟨some 50, .call true 48 1 [(.tmp 49)], none, 1⟩, ⟨some 51, .move (.tmp 7), none, 0⟩, ⟨some 52, .move (.tmp 9), none, 0⟩, ⟨some 53, .call true 50 1 [(.tmp 51), (.tmp 52)], none, 15⟩, ⟨some 54, .eq true (.num) (.tmp 50) (.tmp 53), none, 31⟩] false) (.cond (.tmp 54) (.exit 0) (.skip))) (.region [⟨some 55, .move (.tmp 8), none, 0⟩, ⟨some 56, .slice (.arr 64) (.tmp 10) (some (.val (.int .i64 8))) (some (.val (.int .i64 56))) none, none, 0⟩, ⟨some 57, .call true 51 1 [(.tmp 56)], none, 2⟩, ⟨some 58, .buildSlice 1 [(.isl 0 1 [])] [(0, (.tmp 57))], none, 6⟩, ⟨some 59, .append 1 24 (.tmp 55) (.tmp 58), none, 15⟩, ⟨some 8, .assign (.tmp 59), none, 31⟩] false))))) (.region [⟨some 60, .bin (.add) (.tmp 42) (.val (.int .i64 1)), none, 0⟩, ⟨some 42, .move (.tmp 60), none, 1⟩] false))))))) (.seq (.region [⟨some 61, .move (.tmp 7), none, 0⟩, ⟨some 62, .move (.tmp 8), none, 0⟩, ⟨some 4, .assign (.tmp 61), none, 1⟩, ⟨some 5, .assign (.tmp 62), none, 7⟩] false) (.ret))))))))
abbrev v14 : VFunc := { nparams := 2, ntmps := 63, nsites := 1, results := [.tmp 4, .tmp 5], body := b14 }
def mid (c : List Nat) : List Nat := (c.drop 8).take 48
/-- What stands from a place on, for a round. -/
def rdN (es : List (List Nat)) (ls : List (Nat × List Nat)) (i r : Nat) : Nat → Nat → List (List Nat)
  | _, 0 => []
  | a, k + 1 => if markN (getC es ls ((i + a : Nat) : Int)) = mkN r a then mid (getC es ls ((i + a : Nat) : Int)) :: rdN es ls i r (a + 1) k else []
abbrev iB (b : List Nat) : V := .isl 0 1 (byN b)
/-- What a side tells. -/
def readN (es : List (List Nat)) (ls : List (Nat × List Nat)) (side : Int) : Nat × List (List Nat) :=
  if side < 0 ∨ 2 ≤ side ∨ es.length / 2 = 0 then (0, []) else
  let i := side.toNat * (es.length / 2)
  let f := markN (getC es ls (i : Int))
  let r := f / 65536
  if r < 1 ∨ 1099511627776 < r ∨ f ≠ mkN r 0 then (0, []) else (r, rdN es ls i r 0 (es.length / 2))
abbrev listV (l : List (List Nat)) : V := .xsl 0 1 (l.map iB)
abbrev readV (x : Nat × List (List Nat)) : V := .tup [.int .u64 (x.1 : Int), listV x.2]
def SRd (sd r : Nat) (es : List (List Nat)) (ls : List (Nat × List Nat)) (off : Bool) (left : Int) (a : Nat × List (List Nat)) : St :=
  ⟨(q0 :: .int .i64 sd :: .gone 0 :: .gone 0 :: .gone 0 :: .gone 0 :: .gone 0 :: .int .u64 r :: .xsl 0 1 (a.2.map iB) :: .gone 0 :: .gone 0 :: .gone 0 :: .gone 0 :: .gone 0 :: .gone 0 :: .gone 0 :: .gone 0 :: .gone 0 :: .gone 0 :: .gone 0 :: .gone 0 :: .gone 0 :: .gone 0 :: .gone 0 :: .gone 0 :: .gone 0 :: .gone 0 :: .gone 0 :: .gone 0 :: .gone 0 :: .gone 0 :: .gone 0 :: .gone 0 :: .gone 0 :: .gone 0 :: .gone 0 :: .gone 0 :: .gone 0 :: .gone 0 :: .gone 0 :: .gone 0 :: .int .i64 ((es.length / 2 : Nat) : Int) :: .int .i64 a.1 :: .gone 0 :: .gone 0 :: .gone 0 :: .gone 0 :: .gone 0 :: .gone 0 :: .gone 0 :: .gone 0 :: .gone 0 :: .gone 0 :: .gone 0 :: .gone 0 :: .gone 0 :: .gone 0 :: .gone 0 :: .gone 0 :: .gone 0 :: .gone 0 :: .gone 0 :: .gone 0 :: []), [some (plateO es true ls off left), none]⟩
section
variable (G : VProg)
theorem mread (hG : G 14 = some (.code v14)) (hR : ∀ es fz ls off left, es.length < 2 ^ 40 → lim G 28 [q0] [plateO es fz ls off left] = some (.int .i64 ((es.length / 2 : Nat) : Int), [plateO es fz ls off left]))
    (hM : ∀ r a : Nat, r ≤ 2 ^ 40 → a < 2 ^ 30 → lim G 50 [.int .u64 r, .int .i64 a] [] = some (.int .u64 (mkN r a : Nat), []))
    (hK : ∀ c : List Nat, C64 c → lim G 48 [cellV c] [] = some (.int .u64 (markN c : Nat), []))
    (hc : ∀ es : List V, es.length ≤ 140737488355328 → lim G 51 [.isl 0 1 es] [] = some (.xsl 0 1 es, []))
    (hX : ∀ (s a : Nat) (_ : s < 2) (_ : a < 2 ^ 40) (es fz ls off left) (_ : PW es ls),
      lim G 49 [q0, .int .i64 s, .int .i64 a] [plateO es fz ls off left] = some (cellV (getC es ls ((s * (es.length / 2) + a : Nat) : Int)), [plateO es (if inR ((s * (es.length / 2) + a : Nat) : Int) es.length then true else fz) ls off left]))
    (side : Int) (es fz ls off left) (h : PW es ls) :
    lim G 14 [q0, .int .i64 side] [plateO es fz ls off left] = some (readV (readN es ls side), [plateO es (fz || decide (0 ≤ side ∧ side < 2 ∧ 0 < es.length / 2)) ls off left]) := by
  have hn := h.n
  have g1 := hR es fz ls off left (by omega)
  cases b1 : decide (side < 0)
  case true =>
    simp at b1
    unfold readN
    rw [if_pos (by omega), decide_eq_false (by omega), Bool.or_false]
    have b1 : decide (side < 0) = true := by simp; omega
    cases fz
    all_goals exact lim_fun hG (h := runV b1 trivial trivial)
  cases b2 : decide (2 ≤ side)
  case true =>
    simp at b2
    unfold readN
    rw [if_pos (by omega), decide_eq_false (by omega), Bool.or_false]
    have b2 : decide (2 ≤ side) = true := by simp; omega
    cases fz
    all_goals exact lim_fun hG (h := runV (And.intro b1 b2) trivial trivial)
  cases b3 : (((es.length / 2 : Nat) : Int) == 0)
  case true =>
    simp only [beq_iff_eq] at b3
    unfold readN
    rw [if_pos (by omega), decide_eq_false (by omega), Bool.or_false]
    have b3 : (((es.length / 2 : Nat) : Int) == 0) = true := by simp only [beq_iff_eq]; omega
    cases fz
    all_goals exact lim_fun hG (h := runV (And.intro b1 (And.intro b2 b3)) trivial trivial)
  have k1 : ¬ side < 0 := by simpa using b1
  have k2 : ¬ 2 ≤ side := by simpa using b2
  have k3 : ¬ ((es.length / 2 : Nat) : Int) = 0 := by simpa only [beq_eq_false_iff_ne, ne_eq] using b3
  unfold readN
  rw [if_neg (by omega), decide_eq_true (by omega), Bool.or_true]
  obtain ⟨sd, rfl⟩ : ∃ sd : Nat, side = sd := ⟨side.toNat, by omega⟩
  simp only [Int.toNat_natCast]
  have g2 := hX sd 0 (by omega) (by omega) es fz ls off left h
  obtain ⟨i, hi⟩ : ∃ i, i = sd * (es.length / 2) := ⟨_, rfl⟩
  have hi2 : i + es.length / 2 ≤ es.length := by
    have : sd = 0 ∨ sd = 1 := by omega
    rcases this with rfl | rfl <;> omega
  rw [← hi] at g2 ⊢
  have hin : inR ((i + 0 : Nat) : Int) es.length = true := by simp only [inR, Bool.and_eq_true, decide_eq_true_eq]; omega
  rw [hin] at g2
  simp only [if_true, Nat.add_zero] at g2
  have hC := getC_C h (i : Int)
  have hl := hC.1
  have g3 := hK _ hC
  have hm := markN_lt hC
  obtain ⟨c, hcd⟩ : ∃ c, c = getC es ls (i : Int) := ⟨_, rfl⟩
  rw [← hcd] at g2 g3 hl hm ⊢
  obtain ⟨f, hf⟩ : ∃ f, f = markN c := ⟨_, rfl⟩
  rw [← hf] at g3 hm ⊢
  obtain ⟨r, hr⟩ : ∃ r, r = f / 65536 := ⟨_, rfl⟩
  have s1 : (f : Int).fdiv (2 ^ min 16 IntKind.u64.bits) = (r : Int) := by rw [hr, Int.fdiv_eq_ediv_of_nonneg _ (by decide)]; rfl
  rw [← hr]
  have g2' : lim G 49 [q0, .int .i64 sd, .int .i64 0] [plateO es fz ls off left] = some (cellV c, [plateO es true ls off left]) := g2
  clear g2
  have F := And.intro b1 (And.intro b2 (And.intro b3 (And.intro s1 (cf hl))))
  cases b4 : decide ((r : Int) < 1)
  case true =>
    simp only [decide_eq_true_eq] at b4
    rw [if_pos (by omega)]
    have b4 : decide ((r : Int) < 1) = true := by simp only [decide_eq_true_eq]; omega
    cases fz
    all_goals exact lim_fun hG (h := runV (And.intro b4 F) trivial trivial)
  cases b5 : decide ((1099511627776 : Int) < (r : Int))
  case true =>
    simp only [decide_eq_true_eq] at b5
    rw [if_pos (by omega)]
    have b5 : decide ((1099511627776 : Int) < (r : Int)) = true := by simp only [decide_eq_true_eq]; omega
    cases fz
    all_goals exact lim_fun hG (h := runV (And.intro b4 (And.intro b5 F)) trivial trivial)
  have k4 : ¬ (r : Int) < 1 := by simpa only [decide_eq_false_iff_not] using b4
  have k5 : ¬ (1099511627776 : Int) < (r : Int) := by simpa only [decide_eq_false_iff_not] using b5
  have g4 := hM r 0 (by omega) (by omega)
  have g4' : lim G 50 [.int .u64 r, .int .i64 0] [] = some (.int .u64 (mkN r 0 : Nat), []) := g4
  clear g4
  obtain ⟨m0, hm0⟩ : ∃ m0, m0 = mkN r 0 := ⟨_, rfl⟩
  rw [← hm0] at g4' ⊢
  cases b6 : ((f : Int) == (m0 : Int))
  case false =>
    rw [if_pos (.inr (.inr (by intro e; rw [e] at b6; simp at b6)))]
    clear hm0
    cases fz
    all_goals exact lim_fun hG (h := runV (And.intro b4 (And.intro b5 (And.intro b6 F))) trivial trivial)
  have k6 : f = m0 := by simp only [beq_iff_eq] at b6; omega
  rw [if_neg (by rintro (h | h | h); omega; omega; exact h k6)]
  have g1t := hR es true ls off left (by omega)
  have hM' := fun a (ha : a < 2 ^ 30) => hM r a (by omega) ha
  have hX' := fun a (ha : a < es.length / 2) => hX sd a (by omega) (by omega) es true ls off left h
  rw [← hi] at hX'
  simp only [ite_self] at hX'
  cases fz
  case' false =>
    refine lim_fun hG (h := runV (And.intro b4 (And.intro b5 (And.intro b6 F))) trivial ?_)
  case' true =>
    refine lim_fun hG (h := runV (And.intro b4 (And.intro b5 (And.intro b6 F))) trivial ?_)
  all_goals
    refine WL_loop (SRd sd r es ls off left) (fun a => a.1 ≤ es.length / 2 ∧ a.2.length = a.1 ∧ a.2 ++ rdN es ls i r a.1 (es.length / 2 - a.1) = rdN es ls i r 0 (es.length / 2)) (fun a => es.length / 2 - a.1) ?_ (0, []) _ ⟨Nat.zero_le _, rfl, by rw [Nat.sub_zero, List.nil_append]⟩ (by kernel_rfl)
    rintro ⟨a, out⟩ ⟨ha, ho, hrd⟩
    simp only at ha ho hrd
    by_cases hlt0 : a < es.length / 2
    · have hlt : decide ((a : Int) < ((es.length / 2 : Nat) : Int)) = true := by simp only [decide_eq_true_eq]; omega
      have i1 := inc64 a (by omega)
      have q1 := hX' a hlt0
      have q2 := hM' a (by omega)
      have hCa := getC_C h ((i + a : Nat) : Int)
      have q3 := hK _ hCa
      have hla := hCa.1
      have hrd2 : rdN es ls i r a (es.length / 2 - a) = if markN (getC es ls ((i + a : Nat) : Int)) = mkN r a then mid (getC es ls ((i + a : Nat) : Int)) :: rdN es ls i r (a + 1) (es.length / 2 - (a + 1)) else [] := by
        rw [show es.length / 2 - a = (es.length / 2 - (a + 1)) + 1 by omega]; rfl
      rw [hrd2] at hrd
      clear hrd2
      obtain ⟨ca, hca⟩ : ∃ ca, ca = getC es ls ((i + a : Nat) : Int) := ⟨_, rfl⟩
      rw [← hca] at q1 q3 hla hrd
      obtain ⟨u, hu⟩ : ∃ u, u = markN ca := ⟨_, rfl⟩
      obtain ⟨w, hw⟩ : ∃ w, w = mkN r a := ⟨_, rfl⟩
      rw [← hu] at q3 hrd
      rw [← hw] at q2 hrd
      have hmid := hc (byN (mid ca)) (by rw [byN_len]; simp [mid, hla])
      have dm : List.take 48 (List.drop 8 (byN ca)) = byN (mid ca) := by rw [byN_sub']; rfl
      obtain ⟨mc, hmc⟩ : ∃ mc, mc = mid ca := ⟨_, rfl⟩
      rw [← hmc] at hmid dm hrd
      cases b7 : ((u : Int) == (w : Int))
      · rw [if_neg (by intro e; rw [e] at b7; simp at b7)] at hrd
        rw [← hrd, List.append_nil]
        unfold SRd
        refine runV (And.intro hlt (And.intro i1 (And.intro b7 (cf hla)))) trivial ?_
        refine Qr_x ?_
        refine Qb_x (σ1 := ⟨(.gone 0 :: .gone 0 :: .gone 0 :: .gone 0 :: .gone 0 :: .gone 0 :: .gone 0 :: .int .u64 r :: .xsl 0 1 (out.map iB) :: .gone 0 :: .gone 0 :: .gone 0 :: .gone 0 :: .gone 0 :: .gone 0 :: .gone 0 :: .gone 0 :: .gone 0 :: .gone 0 :: .gone 0 :: .gone 0 :: .gone 0 :: .gone 0 :: .gone 0 :: .gone 0 :: .gone 0 :: .gone 0 :: .gone 0 :: .gone 0 :: .gone 0 :: .gone 0 :: .gone 0 :: .gone 0 :: .gone 0 :: .gone 0 :: .gone 0 :: .gone 0 :: .gone 0 :: .gone 0 :: .gone 0 :: .gone 0 :: .gone 0 :: .gone 0 :: .gone 0 :: .gone 0 :: .gone 0 :: .gone 0 :: .gone 0 :: .gone 0 :: .gone 0 :: .gone 0 :: .gone 0 :: .gone 0 :: .gone 0 :: .gone 0 :: .gone 0 :: .gone 0 :: .gone 0 :: .gone 0 :: .gone 0 :: .gone 0 :: .gone 0 :: .gone 0 :: []), [some (plateO es true ls off left), none]⟩) (by kernel_rfl) ?_
        refine runV trivial trivial ?_
        exact Qe_r (fin_own2 rfl rfl rfl rfl rfl (by simp) rfl)
      · rw [if_pos (by simp only [beq_iff_eq] at b7; omega)] at hrd
        have em : out.map iB ++ [.isl 0 1 (byN mc)] = (out ++ [mc]).map iB := by simp
        unfold SRd
        refine runV (And.intro hlt (And.intro i1 (And.intro b7 (And.intro dm (And.intro em (cf hla)))))) (apart_xs mc) ?_
        exact Qr_n (a + 1, out ++ [mc]) (by kernel_rfl) ⟨⟨by simp only; omega, by simp [ho], by simp only; rw [List.append_assoc]; exact hrd⟩, by simp only; omega⟩
    · obtain rfl : a = es.length / 2 := by omega
      have hlt : decide ((((es.length / 2 : Nat) : Nat) : Int) < ((es.length / 2 : Nat) : Int)) = false := by simp only [decide_eq_false_iff_not]; omega
      rw [Nat.sub_self] at hrd
      have hrd2 : out = rdN es ls i r 0 (es.length / 2) := by rw [← hrd]; simp [rdN]
      rw [← hrd2]
      unfold SRd
      refine runV hlt trivial ?_
      refine Qr_x ?_
      refine Qb_x (σ1 := ⟨(.gone 0 :: .gone 0 :: .gone 0 :: .gone 0 :: .gone 0 :: .gone 0 :: .gone 0 :: .int .u64 r :: .xsl 0 1 (out.map iB) :: .gone 0 :: .gone 0 :: .gone 0 :: .gone 0 :: .gone 0 :: .gone 0 :: .gone 0 :: .gone 0 :: .gone 0 :: .gone 0 :: .gone 0 :: .gone 0 :: .gone 0 :: .gone 0 :: .gone 0 :: .gone 0 :: .gone 0 :: .gone 0 :: .gone 0 :: .gone 0 :: .gone 0 :: .gone 0 :: .gone 0 :: .gone 0 :: .gone 0 :: .gone 0 :: .gone 0 :: .gone 0 :: .gone 0 :: .gone 0 :: .gone 0 :: .gone 0 :: .gone 0 :: .gone 0 :: .gone 0 :: .gone 0 :: .gone 0 :: .gone 0 :: .gone 0 :: .gone 0 :: .gone 0 :: .gone 0 :: .gone 0 :: .gone 0 :: .gone 0 :: .gone 0 :: .gone 0 :: .gone 0 :: .gone 0 :: .gone 0 :: .gone 0 :: .gone 0 :: .gone 0 :: .gone 0 :: []), [some (plateO es true ls off left), none]⟩) (by kernel_rfl) ?_
      refine runV trivial trivial ?_
      exact Qe_r (fin_own2 rfl rfl rfl rfl rfl (by simp) rfl)
end
end P1
end Go.Vq

namespace Go.Vq
namespace P1
open Go
set_option maxRecDepth 1000000
set_option maxHeartbeats 8000000
/-! What is put is read: plain laws. -/
theorem leN_le8 (n : Nat) (h : n < 2 ^ 64) : leN (le8 n) = n := by
  simp only [leN, le8, List.foldr]
  omega
theorem le8_lt (n : Nat) : ∀ x ∈ le8 n, x < 256 := by
  intro x hx
  simp [le8] at hx
  omega
theorem pad48_lt {l : List Nat} (h : ∀ x ∈ l, x < 256) : ∀ x ∈ pad48 l, x < 256 := by
  intro x hx
  rcases List.mem_append.1 hx with hx | hx
  · exact h x hx
  · have := List.eq_of_mem_replicate hx; omega
theorem cellM_C {n : Nat} {l : List Nat} (hl : l.length ≤ 48) (hb : ∀ x ∈ l, x < 256) : C64 (cellM n l) := by
  refine ⟨by simp [cellM, le8, pad48_len hl], fun x hx => ?_⟩
  rcases List.mem_append.1 hx with hx | hx
  · exact le8_lt n x hx
  · rcases List.mem_append.1 hx with hx | hx
    · exact pad48_lt hb x hx
    · exact le8_lt n x hx
theorem cellM_A (n : Nat) (l : List Nat) (h : n < 2 ^ 64) : endA (cellM n l) = n := by
  unfold endA cellM
  rw [show List.take 8 (le8 n ++ (pad48 l ++ le8 n)) = le8 n from List.take_left' rfl]; exact leN_le8 n h
theorem cellM_B (n : Nat) (l : List Nat) (hl : l.length ≤ 48) (h : n < 2 ^ 64) : endB (cellM n l) = n := by
  unfold endB cellM
  rw [← List.append_assoc, List.drop_left' (by simp [le8, pad48_len hl])]; exact leN_le8 n h
theorem cellM_mark (n : Nat) (l : List Nat) (hl : l.length ≤ 48) (h : n < 2 ^ 64) : markN (cellM n l) = n := by
  unfold markN
  rw [cellM_A n l h, cellM_B n l hl h, if_pos rfl]
theorem cellM_mid (n : Nat) (l : List Nat) (hl : l.length ≤ 48) : mid (cellM n l) = pad48 l := by
  unfold mid cellM
  rw [show List.drop 8 (le8 n ++ (pad48 l ++ le8 n)) = pad48 l ++ le8 n from List.drop_left' rfl, List.take_left' (pad48_len hl)]
theorem find_app_eq (ls : List (Nat × List Nat)) (a : Nat) (c : List Nat) : find (ls ++ [(a, c)]) (a : Int) = some c := by simp [find]
theorem find_app_ne (ls : List (Nat × List Nat)) (a : Nat) (c : List Nat) (i : Int) (h : (a : Int) ≠ i) : find (ls ++ [(a, c)]) i = find ls i := by simp [find, h]
theorem getC_app_eq (es : List (List Nat)) (ls : List (Nat × List Nat)) (a : Nat) (c : List Nat) (h : a < es.length) : getC es (ls ++ [(a, c)]) (a : Int) = c := by
  unfold getC
  rw [if_pos (by simp [inR]; omega), find_app_eq]; rfl
theorem getC_app_ne (es : List (List Nat)) (ls : List (Nat × List Nat)) (a : Nat) (c : List Nat) (i : Int) (h : (a : Int) ≠ i) : getC es (ls ++ [(a, c)]) i = getC es ls i := by
  unfold getC
  rw [find_app_ne _ _ _ _ h]
theorem rdN_congr {es es' : List (List Nat)} {ls ls' : List (Nat × List Nat)} {i r : Nat} : ∀ (k a : Nat), (∀ j, a ≤ j → j < a + k → getC es ls ((i + j : Nat) : Int) = getC es' ls' ((i + j : Nat) : Int)) → rdN es ls i r a k = rdN es' ls' i r a k
  | 0, _, _ => rfl
  | k + 1, a, h => by
    simp only [rdN]
    rw [h a (Nat.le_refl _) (by omega), rdN_congr k (a + 1) fun j h1 h2 => h j (by omega) (by omega)]
theorem readN_congr {es : List (List Nat)} {ls ls' : List (Nat × List Nat)} {s : Nat} (h : ∀ j, j < es.length / 2 → getC es ls ((s * (es.length / 2) + j : Nat) : Int) = getC es ls' ((s * (es.length / 2) + j : Nat) : Int)) : readN es ls (s : Int) = readN es ls' (s : Int) := by
  unfold readN
  split
  · rfl
  · rename_i hn
    have h0 := h 0 (by omega)
    simp only [Nat.add_zero] at h0
    simp only [Int.toNat_natCast, h0]
    rw [rdN_congr (es' := es) (ls' := ls') (es.length / 2) 0 fun j _ hj => h j (by omega)]
/-- A round put on a side is told. -/
theorem readN_put (es : List (List Nat)) (ls : List (Nat × List Nat)) (s r : Nat) (l : List Nat) (hs : s < 2) (hl : l.length ≤ 48) (hr : 1 ≤ r) (hr2 : r ≤ 1099511627776) (he : 0 < es.length / 2) :
    ∃ L, readN es (ls ++ [(s * (es.length / 2), cellM (mkN r 0) l)]) (s : Int) = (r, pad48 l :: L) := by
  have hi : s * (es.length / 2) < es.length := by
    have : s = 0 ∨ s = 1 := by omega
    rcases this with rfl | rfl <;> omega
  have hn : mkN r 0 < 2 ^ 64 := by unfold mkN; omega
  unfold readN
  rw [if_neg (by omega)]
  simp only [Int.toNat_natCast]
  rw [getC_app_eq _ _ _ _ hi, cellM_mark _ _ hl hn]
  have e : mkN r 0 / 65536 = r := by unfold mkN; omega
  rw [e, if_neg (by rintro (h | h | h); omega; omega; exact h rfl)]
  obtain ⟨k, hk⟩ : ∃ k, es.length / 2 = k + 1 := ⟨es.length / 2 - 1, by omega⟩
  have e2 : rdN es (ls ++ [(s * (es.length / 2), cellM (mkN r 0) l)]) (s * (es.length / 2)) r 0 (k + 1) = pad48 l :: rdN es (ls ++ [(s * (es.length / 2), cellM (mkN r 0) l)]) (s * (es.length / 2)) r 1 k := by
    simp only [rdN, Nat.add_zero, getC_app_eq _ _ _ _ hi, cellM_mark _ _ hl hn, cellM_mid _ _ hl, if_true]
  exact ⟨_, by rw [← e2, ← hk]⟩
theorem topN_le (es : List (List Nat)) (ls : List (Nat × List Nat)) (T : Nat) (h : ∀ i : Nat, endA (getC es ls i) / 65536 ≤ T ∧ endB (getC es ls i) / 65536 ≤ T) : ∀ n, topN es ls n ≤ T
  | 0 => Nat.zero_le _
  | n + 1 => by
    have h1 := topN_le es ls T h n
    obtain ⟨h2, h3⟩ := h n
    simp only [topN]
    omega
theorem getC_in {es : List (List Nat)} {ls : List (Nat × List Nat)} {p : List Nat → Prop} (h0 : p zero64) (h1 : ∀ c ∈ es, p c) (h2 : ∀ w ∈ ls, p w.2) (i : Int) : p (getC es ls i) := by
  unfold getC
  split
  · rename_i hi
    cases hf : find ls i with
    | some c =>
      unfold find at hf
      obtain ⟨w, hw, rfl⟩ := Option.map_eq_some_iff.1 hf
      exact h2 w (List.mem_reverse.1 (List.mem_of_find?_eq_some hw))
    | none =>
      have hin : i.toNat < es.length := by simp [inR] at hi; omega
      simp only [Option.getD_none, List.getD_eq_getElem?_getD, List.getElem?_eq_getElem hin, Option.getD_some]
      exact h1 _ (List.getElem_mem _)
  · exact h0
/-- What marks' functions answer. -/
structure Marks (G : VProg) : Prop where
  put : ∀ (side : Int) (r : Nat) (at' : Int) (inner : List Nat) (es fz ls off left) (_ : es.length ≤ 4096) (_ : LR left) (_ : (ls.length + 1) * 72 ≤ 140737488355328) (_ : r < 2 ^ 64),
    lim G 15 [q0, .int .i64 side, .int .u64 r, .int .i64 at', .isl 0 1 (byN inner)] [plateO es fz ls off left] =
      if 0 ≤ side ∧ side < 2 ∧ 1 ≤ r ∧ r ≤ 1099511627776 ∧ 0 ≤ at' ∧ at' < (es.length / 2 : Nat) ∧ inner.length ≤ 48 then
        (if spO off left then some (.int .i64 72, [plateO es fz ls true left]) else some (.int .i64 0, [plateO es fz (ls ++ [((side.toNat * (es.length / 2) + at'.toNat), cellM (mkN r at'.toNat) inner)]) false (spL off left)]))
      else some (.int .i64 81, [plateO es fz ls off left])
  read : ∀ (side : Int) (es fz ls off left) (_ : PW es ls),
    lim G 14 [q0, .int .i64 side] [plateO es fz ls off left] = some (readV (readN es ls side), [plateO es (fz || decide (0 ≤ side ∧ side < 2 ∧ 0 < es.length / 2)) ls off left])
  top : ∀ (es fz ls off left) (_ : PW es ls), lim G 16 [q0] [plateO es fz ls off left] = some (.int .u64 (topN es ls es.length : Nat), [plateO es (fz || decide (0 < es.length)) ls off left])
  room : ∀ es fz ls off left, es.length < 2 ^ 40 → lim G 28 [q0] [plateO es fz ls off left] = some (.int .i64 ((es.length / 2 : Nat) : Int), [plateO es fz ls off left])
theorem marks_ok (G : VProg) (hc : ∀ es : List V, es.length ≤ 140737488355328 → lim G 51 [.isl 0 1 es] [] = some (.xsl 0 1 es, []))
    (k1 : G 58 = some (.code v58)) (k2 : G 56 = some (.code v56)) (k3 : G 25 = some (.code v25)) (k4 : G 53 = some (.code v53))
    (k5 : G 52 = some (.code v52)) (k6 : G 69 = some (.code v69)) (k7 : G 80 = some (.iter (backwardI true 65)))
    (m1 : G 70 = some (.code v70)) (m2 : G 81 = some (.code v81)) (m3 : G 88 = some (.iter (backwardI false 1)))
    (m4 : G 54 = some (.code v54)) (m5 : G 48 = some (.code v48)) (m6 : G 50 = some (.code v50)) (m7 : G 28 = some (.code v28)) (m8 : G 49 = some (.code v49))
    (m9 : G 16 = some (.code v16)) (m10 : G 15 = some (.code v15)) (m11 : G 14 = some (.code v14)) : Marks G := by
  have t45 := there G k1
  have t46 := spend G k2
  have tl := plen G k5
  have tb := back G k6
  have tput := put G k3 t45 t46
  have tget := pget G k4 k7 t45 tb
  have bB := backB G m2
  have num := number8 G m1 m3 bB
  have en := ends G m4 num
  have mk := marked G m5 en
  have ma := mark G m6
  have ro := room G m7 tl
  have ce := fun s a hs ha es fz ls off left (h : PW es ls) => mcell G m8 ro tget s a hs ha es fz ls off left (fun c hc => (h.c c hc).1) (fun w hw => (h.w w hw).2.1) (by have := h.n; omega) h.m (getC_C h _).1
  exact ⟨fun side r at' inner es fz ls off left hn hl hb hr => mput G m10 ro ma tput side r at' inner es fz ls off left hn hl hb hr,
    fun side es fz ls off left h => mread G m11 ro ma mk hc ce side es fz ls off left h,
    fun es fz ls off left h => top G m9 tl tget en es fz ls off left h, ro⟩
end P1
end Go.Vq

