/- The V-level machine, run on values that are not known (no law of Go is stated here). -/
import Derived.Test.YtbbpandancpibaaM
import Derived.KernelRfl
set_option linter.unusedVariables false
set_option linter.unusedSimpArgs false
set_option linter.unusedSectionVars false
namespace Go.Vq
namespace P1
open Go
set_option maxRecDepth 1000000
set_option maxHeartbeats 8000000
abbrev b14 : VCode := .seq (.region [⟨some 4, .assign (.val (.int .u64 0)), none, 0⟩, ⟨some 5, .assign (.val (.nilS 1)), none, 1⟩] false) (.seq (.seq (.region [⟨some 11, .move (.tmp 1), none, 0⟩, ⟨some 12, .bin (.lss) (.tmp 11) (.val (.int .i64 0)), none, 1⟩, ⟨some 13, .move (.tmp 12), none, 3⟩, ⟨some 14, .move (.tmp 1), some (13, false), 7⟩, ⟨some 15, .bin (.geq) (.tmp 14) (.val (.int .i64 2)), some (13, false), 15⟩, ⟨some 16, .pick (.tmp 13) (.val (.bool true)) (.tmp 15), none, 31⟩, ⟨some 17, .move (.tmp 16), none, 63⟩, ⟨some 18, .move (.tmp 0), some (17, false), 127⟩, ⟨some 19, .call false 28 0 [(.tmp 18)], some (17, false), 255⟩, ⟨some 20, .eq false (.num) (.tmp 19) (.val (.int .i64 0)), some (17, false), 511⟩, ⟨some 21, .pick (.tmp 17) (.val (.bool true)) (.tmp 20), none, 1023⟩] false) (.cond (.tmp 21) (.seq (.region [⟨some 4, .assign (.val (.int .u64 0)), none, 0⟩, ⟨some 5, .assign (.val (.nilS 1)), none, 1⟩] false) (.ret)) (.skip))) (.seq (.region [⟨some 22, .move (.tmp 0), none, 0⟩, ⟨some 23, .move (.tmp 1), none, 0⟩, ⟨some 24, .call false 49 0 [(.tmp 22), (.tmp 23), (.val (.int .i64 0))], none, 3⟩, ⟨some 25, .call true 48 0 [(.tmp 24)], none, 7⟩, ⟨some 6, .assign (.tmp 25), none, 15⟩] false) (.seq (.region [⟨some 26, .move (.tmp 6), none, 0⟩, ⟨some 27, .bin (.shr) (.tmp 26) (.val (.int .u64 16)), none, 1⟩, ⟨some 7, .assign (.tmp 27), none, 3⟩] false) (.seq (.seq (.region [⟨some 28, .move (.tmp 7), none, 0⟩, ⟨some 29, .bin (.lss) (.tmp 28) (.val (.int .u64 1)), none, 1⟩, ⟨some 30, .move (.tmp 29), none, 3⟩, ⟨some 31, .move (.tmp 7), some (30, false), 7⟩, ⟨some 32, .bin (.gtr) (.tmp 31) (.val (.int .u64 1099511627776)), some (30, false), 15⟩, ⟨some 33, .pick (.tmp 30) (.val (.bool true)) (.tmp 32), none, 31⟩, ⟨some 34, .move (.tmp 33), none, 63⟩, ⟨some 35, .move (.tmp 6), some (34, false), 127⟩, ⟨some 36, .move (.tmp 7), some (34, false), 127⟩, ⟨some 37, .call true 50 0 [(.tmp 36), (.val (.int .i64 0))], some (34, false), 383⟩, ⟨some 38, .eq true (.num) (.tmp 35) (.tmp 37), some (34, false), 1023⟩, ⟨some 39, .pick (.tmp 34) (.val (.bool true)) (.tmp 38), none, 2047⟩] false) (.cond (.tmp 39) (.seq (.region [⟨some 4, .assign (.val (.int .u64 0)), none, 0⟩, ⟨some 5, .assign (.val (.nilS 1)), none, 1⟩] false) (.ret)) (.skip))) (.seq (.region [⟨some 8, .assign (.val (.nilS 1)), none, 0⟩] false) (.seq (.seq (.region [⟨some 40, .move (.tmp 0), none, 0⟩, ⟨some 41, .call false 28 0 [(.tmp 40)], none, 1⟩, ⟨some 42, .move (.val (.int .i64 0)), none, 0⟩] false) (.block 0 (some [7, 8]) (.loop (some [0, 1, 7, 8, 41, 42]) (.seq (.region [⟨some 43, .bin (.lss) (.tmp 42) (.tmp 41), none, 0⟩] false) (.seq (.cond (.tmp 43) (.skip) (.exit 0)) (.seq (.block 1 none (.seq (.region [⟨some 44, .move (.tmp 42), none, 0⟩, ⟨some 9, .assign (.tmp 44), none, 1⟩] false) (.seq (.region [⟨some 45, .move (.tmp 0), none, 0⟩, ⟨some 46, .move (.tmp 1), none, 0⟩, ⟨some 47, .move (.tmp 9), none, 0⟩, ⟨some 48, .call false 49 0 [(.tmp 45), (.tmp 46), (.tmp 47)], none, 7⟩, ⟨some 10, .alloc 0 (Z8 64), none, 0⟩, ⟨none, .store 64 (.tmp 10) (.tmp 48), none, 31⟩] false) (.seq (.seq (.region [⟨some 49, .load true 64 (.tmp 10), none, 0⟩, ⟨some 50, .call true 48 1 [(.tmp 49)], none, 1⟩, ⟨some 51, .move (.tmp 7), none, 0⟩, ⟨some 52, .move (.tmp 9), none, 0⟩, ⟨some 53, .call true 50 1 [(.tmp 51), (.tmp 52)], none, 15⟩, ⟨some 54, .eq true (.num) (.tmp 50) (.tmp 53), none, 31⟩] false) (.cond (.tmp 54) (.exit 0) (.skip))) (.region [⟨some 55, .move (.tmp 8), none, 0⟩, ⟨some 56, .slice (.arr 64) (.tmp 10) (some (.val (.int .i64 8))) (some (.val (.int .i64 56))) none, none, 0⟩, ⟨some 57, .call true 51 1 [(.tmp 56)], none, 2⟩, ⟨some 58, .buildSlice 1 [(.isl 0 1 [])] [(0, (.tmp 57))], none, 6⟩, ⟨some 59, .append 1 24 (.tmp 55) (.tmp 58), none, 15⟩, ⟨some 8, .assign (.tmp 59), none, 31⟩] false))))) (.region [⟨some 60, .bin (.add) (.tmp 42) (.val (.int .i64 1)), none, 0⟩, ⟨some 42, .move (.tmp 60), none, 1⟩] false))))))) (.seq (.region [⟨some 61, .move (.tmp 7), none, 0⟩, ⟨some 62, .move (.tmp 8), none, 0⟩, ⟨some 4, .assign (.tmp 61), none, 1⟩, ⟨some 5, .assign (.tmp 62), none, 7⟩] false) (.ret))))))))
abbrev v14 : VFunc := { nparams := 2, ntmps := 63, nsites := 1, results := [.tmp 4, .tmp 5], body := b14 }
def mid (c : List Nat) : List Nat := (c.drop 8).take 48
/-- What stands from a place on, for a round. -/
def rdN (es : List (List Nat)) (ls : List (Nat × List Nat)) (i r : Nat) : Nat → Nat → List (List Nat)
  | _, 0 => []
  | a, k + 1 => if markN (getC es ls ((i + a : Nat) : Int)) = mkN r a then mid (getC es ls ((i + a : Nat) : Int)) :: rdN es ls i r (a + 1) k else []
abbrev iB (b : List Nat) : V := .isl 0 1 (byN b)
/-- What a side tells. -/
def readN (es : List (List Nat)) (ls : List (Nat × List Nat)) (side : Int) : Nat × List (List Nat) :=
  if side < 0 ∨ 2 ≤ side ∨ es.length / 2 = 0 then (0, []) else
  let i := side.toNat * (es.length / 2)
  let f := markN (getC es ls (i : Int))
  let r := f / 65536
  if r < 1 ∨ 1099511627776 < r ∨ f ≠ mkN r 0 then (0, []) else (r, rdN es ls i r 0 (es.length / 2))
abbrev listV (l : List (List Nat)) : V := .xsl 0 1 (l.map iB)
abbrev readV (x : Nat × List (List Nat)) : V := .tup [.int .u64 (x.1 : Int), listV x.2]
def SRd (sd r : Nat) (es : List (List Nat)) (ls : List (Nat × List Nat)) (off : Bool) (left : Int) (a : Nat × List (List Nat)) : St :=
  ⟨(q0 :: .int .i64 sd :: .gone 0 :: .gone 0 :: .gone 0 :: .gone 0 :: .gone 0 :: .int .u64 r :: .xsl 0 1 (a.2.map iB) :: .gone 0 :: .gone 0 :: .gone 0 :: .gone 0 :: .gone 0 :: .gone 0 :: .gone 0 :: .gone 0 :: .gone 0 :: .gone 0 :: .gone 0 :: .gone 0 :: .gone 0 :: .gone 0 :: .gone 0 :: .gone 0 :: .gone 0 :: .gone 0 :: .gone 0 :: .gone 0 :: .gone 0 :: .gone 0 :: .gone 0 :: .gone 0 :: .gone 0 :: .gone 0 :: .gone 0 :: .gone 0 :: .gone 0 :: .gone 0 :: .gone 0 :: .gone 0 :: .int .i64 ((es.length / 2 : Nat) : Int) :: .int .i64 a.1 :: .gone 0 :: .gone 0 :: .gone 0 :: .gone 0 :: .gone 0 :: .gone 0 :: .gone 0 :: .gone 0 :: .gone 0 :: .gone 0 :: .gone 0 :: .gone 0 :: .gone 0 :: .gone 0 :: .gone 0 :: .gone 0 :: .gone 0 :: .gone 0 :: .gone 0 :: .gone 0 :: []), [some (plateO es true ls off left), none]⟩
section
variable (G : VProg)
theorem mread (hG : G 14 = some (.code v14)) (hR : ∀ es fz ls off left, es.length < 2 ^ 40 → lim G 28 [q0] [plateO es fz ls off left] = some (.int .i64 ((es.length / 2 : Nat) : Int), [plateO es fz ls off left]))
    (hM : ∀ r a : Nat, r ≤ 2 ^ 40 → a < 2 ^ 30 → lim G 50 [.int .u64 r, .int .i64 a] [] = some (.int .u64 (mkN r a : Nat), []))
    (hK : ∀ c : List Nat, C64 c → lim G 48 [cellV c] [] = some (.int .u64 (markN c : Nat), []))
    (hc : ∀ es : List V, es.length ≤ 140737488355328 → lim G 51 [.isl 0 1 es] [] = some (.xsl 0 1 es, []))
    (hX : ∀ (s a : Nat) (_ : s < 2) (_ : a < 2 ^ 40) (es fz ls off left) (_ : PW es ls),
      lim G 49 [q0, .int .i64 s, .int .i64 a] [plateO es fz ls off left] = some (cellV (getC es ls ((s * (es.length / 2) + a : Nat) : Int)), [plateO es (if inR ((s * (es.length / 2) + a : Nat) : Int) es.length then true else fz) ls off left]))
    (side : Int) (es fz ls off left) (h : PW es ls) :
    lim G 14 [q0, .int .i64 side] [plateO es fz ls off left] = some (readV (readN es ls side), [plateO es (fz || decide (0 ≤ side ∧ side < 2 ∧ 0 < es.length / 2)) ls off left]) := by
  have hn := h.n
  have g1 := hR es fz ls off left (by omega)
  cases b1 : decide (side < 0)
  case true =>
    simp at b1
    unfold readN
    rw [if_pos (by omega), decide_eq_false (by omega), Bool.or_false]
    have b1 : decide (side < 0) = true := by simp; omega
    cases fz
    all_goals exact lim_fun hG (h := runV b1 trivial trivial)
  cases b2 : decide (2 ≤ side)
  case true =>
    simp at b2
    unfold readN
    rw [if_pos (by omega), decide_eq_false (by omega), Bool.or_false]
    have b2 : decide (2 ≤ side) = true := by simp; omega
    cases fz
    all_goals exact lim_fun hG (h := runV (And.intro b1 b2) trivial trivial)
  cases b3 : (((es.length / 2 : Nat) : Int) == 0)
  case true =>
    simp only [beq_iff_eq] at b3
    unfold readN
    rw [if_pos (by omega), decide_eq_false (by omega), Bool.or_false]
    have b3 : (((es.length / 2 : Nat) : Int) == 0) = true := by simp only [beq_iff_eq]; omega
    cases fz
    all_goals exact lim_fun hG (h := runV (And.intro b1 (And.intro b2 b3)) trivial trivial)
  have k1 : ¬ side < 0 := by simpa using b1
  have k2 : ¬ 2 ≤ side := by simpa using b2
  have k3 : ¬ ((es.length / 2 : Nat) : Int) = 0 := by simpa only [beq_eq_false_iff_ne, ne_eq] using b3
  unfold readN
  rw [if_neg (by omega), decide_eq_true (by omega), Bool.or_true]
  obtain ⟨sd, rfl⟩ : ∃ sd : Nat, side = sd := ⟨side.toNat, by omega⟩
  simp only [Int.toNat_natCast]
  have g2 := hX sd 0 (by omega) (by omega) es fz ls off left h
  obtain ⟨i, hi⟩ : ∃ i, i = sd * (es.length / 2) := ⟨_, rfl⟩
  have hi2 : i + es.length / 2 ≤ es.length := by
    have : sd = 0 ∨ sd = 1 := by omega
    rcases this with rfl | rfl <;> omega
  rw [← hi] at g2 ⊢
  have hin : inR ((i + 0 : Nat) : Int) es.length = true := by simp only [inR, Bool.and_eq_true, decide_eq_true_eq]; omega
  rw [hin] at g2
  simp only [if_true, Nat.add_zero] at g2
  have hC := getC_C h (i : Int)
  have hl := hC.1
  have g3 := hK _ hC
  have hm := markN_lt hC
  obtain ⟨c, hcd⟩ : ∃ c, c = getC es ls (i : Int) := ⟨_, rfl⟩
  rw [← hcd] at g2 g3 hl hm ⊢
  obtain ⟨f, hf⟩ : ∃ f, f = markN c := ⟨_, rfl⟩
  rw [← hf] at g3 hm ⊢
  obtain ⟨r, hr⟩ : ∃ r, r = f / 65536 := ⟨_, rfl⟩
  have s1 : (f : Int).fdiv (2 ^ min 16 IntKind.u64.bits) = (r : Int) := by rw [hr, Int.fdiv_eq_ediv_of_nonneg _ (by decide)]; rfl
  rw [← hr]
  have g2' : lim G 49 [q0, .int .i64 sd, .int .i64 0] [plateO es fz ls off left] = some (cellV c, [plateO es true ls off left]) := g2
  clear g2
  have F := And.intro b1 (And.intro b2 (And.intro b3 (And.intro s1 (cf hl))))
  cases b4 : decide ((r : Int) < 1)
  case true =>
    simp only [decide_eq_true_eq] at b4
    rw [if_pos (by omega)]
    have b4 : decide ((r : Int) < 1) = true := by simp only [decide_eq_true_eq]; omega
    cases fz
    all_goals exact lim_fun hG (h := runV (And.intro b4 F) trivial trivial)
  cases b5 : decide ((1099511627776 : Int) < (r : Int))
  case true =>
    simp only [decide_eq_true_eq] at b5
    rw [if_pos (by omega)]
    have b5 : decide ((1099511627776 : Int) < (r : Int)) = true := by simp only [decide_eq_true_eq]; omega
    cases fz
    all_goals exact lim_fun hG (h := runV (And.intro b4 (And.intro b5 F)) trivial trivial)
  have k4 : ¬ (r : Int) < 1 := by simpa only [decide_eq_false_iff_not] using b4
  have k5 : ¬ (1099511627776 : Int) < (r : Int) := by simpa only [decide_eq_false_iff_not] using b5
  have g4 := hM r 0 (by omega) (by omega)
  have g4' : lim G 50 [.int .u64 r, .int .i64 0] [] = some (.int .u64 (mkN r 0 : Nat), []) := g4
  clear g4
  obtain ⟨m0, hm0⟩ : ∃ m0, m0 = mkN r 0 := ⟨_, rfl⟩
  rw [← hm0] at g4' ⊢
  cases b6 : ((f : Int) == (m0 : Int))
  case false =>
    rw [if_pos (.inr (.inr (by intro e; rw [e] at b6; simp at b6)))]
    clear hm0
    cases fz
    all_goals exact lim_fun hG (h := runV (And.intro b4 (And.intro b5 (And.intro b6 F))) trivial trivial)
  have k6 : f = m0 := by simp only [beq_iff_eq] at b6; omega
  rw [if_neg (by rintro (h | h | h); omega; omega; exact h k6)]
  have g1t := hR es true ls off left (by omega)
  have hM' := fun a (ha : a < 2 ^ 30) => hM r a (by omega) ha
  have hX' := fun a (ha : a < es.length / 2) => hX sd a (by omega) (by omega) es true ls off left h
  rw [← hi] at hX'
  simp only [ite_self] at hX'
  cases fz
  case' false =>
    refine lim_fun hG (h := runV (And.intro b4 (And.intro b5 (And.intro b6 F))) trivial ?_)
  case' true =>
    refine lim_fun hG (h := runV (And.intro b4 (And.intro b5 (And.intro b6 F))) trivial ?_)
  all_goals
    refine WL_loop (SRd sd r es ls off left) (fun a => a.1 ≤ es.length / 2 ∧ a.2.length = a.1 ∧ a.2 ++ rdN es ls i r a.1 (es.length / 2 - a.1) = rdN es ls i r 0 (es.length / 2)) (fun a => es.length / 2 - a.1) ?_ (0, []) _ ⟨Nat.zero_le _, rfl, by rw [Nat.sub_zero, List.nil_append]⟩ (by kernel_rfl)
    rintro ⟨a, out⟩ ⟨ha, ho, hrd⟩
    simp only at ha ho hrd
    by_cases hlt0 : a < es.length / 2
    · have hlt : decide ((a : Int) < ((es.length / 2 : Nat) : Int)) = true := by simp only [decide_eq_true_eq]; omega
      have i1 := inc64 a (by omega)
      have q1 := hX' a hlt0
      have q2 := hM' a (by omega)
      have hCa := getC_C h ((i + a : Nat) : Int)
      have q3 := hK _ hCa
      have hla := hCa.1
      have hrd2 : rdN es ls i r a (es.length / 2 - a) = if markN (getC es ls ((i + a : Nat) : Int)) = mkN r a then mid (getC es ls ((i + a : Nat) : Int)) :: rdN es ls i r (a + 1) (es.length / 2 - (a + 1)) else [] := by
        rw [show es.length / 2 - a = (es.length / 2 - (a + 1)) + 1 by omega]; rfl
      rw [hrd2] at hrd
      clear hrd2
      obtain ⟨ca, hca⟩ : ∃ ca, ca = getC es ls ((i + a : Nat) : Int) := ⟨_, rfl⟩
      rw [← hca] at q1 q3 hla hrd
      obtain ⟨u, hu⟩ : ∃ u, u = markN ca := ⟨_, rfl⟩
      obtain ⟨w, hw⟩ : ∃ w, w = mkN r a := ⟨_, rfl⟩
      rw [← hu] at q3 hrd
      rw [← hw] at q2 hrd
      have hmid := hc (byN (mid ca)) (by rw [byN_len]; simp [mid, hla])
      have dm : List.take 48 (List.drop 8 (byN ca)) = byN (mid ca) := by rw [byN_sub']; rfl
      obtain ⟨mc, hmc⟩ : ∃ mc, mc = mid ca := ⟨_, rfl⟩
      rw [← hmc] at hmid dm hrd
      cases b7 : ((u : Int) == (w : Int))
      · rw [if_neg (by intro e; rw [e] at b7; simp at b7)] at hrd
        rw [← hrd, List.append_nil]
        unfold SRd
        refine runV (And.intro hlt (And.intro i1 (And.intro b7 (cf hla)))) trivial ?_
        refine Qr_x ?_
        refine Qb_x (σ1 := ⟨(.gone 0 :: .gone 0 :: .gone 0 :: .gone 0 :: .gone 0 :: .gone 0 :: .gone 0 :: .int .u64 r :: .xsl 0 1 (out.map iB) :: .gone 0 :: .gone 0 :: .gone 0 :: .gone 0 :: .gone 0 :: .gone 0 :: .gone 0 :: .gone 0 :: .gone 0 :: .gone 0 :: .gone 0 :: .gone 0 :: .gone 0 :: .gone 0 :: .gone 0 :: .gone 0 :: .gone 0 :: .gone 0 :: .gone 0 :: .gone 0 :: .gone 0 :: .gone 0 :: .gone 0 :: .gone 0 :: .gone 0 :: .gone 0 :: .gone 0 :: .gone 0 :: .gone 0 :: .gone 0 :: .gone 0 :: .gone 0 :: .gone 0 :: .gone 0 :: .gone 0 :: .gone 0 :: .gone 0 :: .gone 0 :: .gone 0 :: .gone 0 :: .gone 0 :: .gone 0 :: .gone 0 :: .gone 0 :: .gone 0 :: .gone 0 :: .gone 0 :: .gone 0 :: .gone 0 :: .gone 0 :: .gone 0 :: .gone 0 :: .gone 0 :: .gone 0 :: []), [some (plateO es true ls off left), none]⟩) (by kernel_rfl) ?_
        refine runV trivial trivial ?_
        trace_state
        exact Qe_r (fin_own2 rfl rfl rfl rfl rfl (by simp) rfl)
      · rw [if_pos (by simp only [beq_iff_eq] at b7; omega)] at hrd
        have em : out.map iB ++ [.isl 0 1 (byN mc)] = (out ++ [mc]).map iB := by simp
        unfold SRd
        refine runV (And.intro hlt (And.intro i1 (And.intro b7 (And.intro dm (And.intro em (cf hla)))))) (apart_xs mc) ?_
        exact Qr_n (a + 1, out ++ [mc]) (by kernel_rfl) ⟨⟨by simp only; omega, by simp [ho], by simp only; rw [List.append_assoc]; exact hrd⟩, by simp only; omega⟩
    · obtain rfl : a = es.length / 2 := by omega
      have hlt : decide ((((es.length / 2 : Nat) : Nat) : Int) < ((es.length / 2 : Nat) : Int)) = false := by simp only [decide_eq_false_iff_not]; omega
      rw [Nat.sub_self] at hrd
      have hrd2 : out = rdN es ls i r 0 (es.length / 2) := by rw [← hrd]; simp [rdN]
      rw [← hrd2]
      unfold SRd
      refine runV hlt trivial ?_
      refine Qr_x ?_
      refine Qb_x (σ1 := ⟨(.gone 0 :: .gone 0 :: .gone 0 :: .gone 0 :: .gone 0 :: .gone 0 :: .gone 0 :: .int .u64 r :: .xsl 0 1 (out.map iB) :: .gone 0 :: .gone 0 :: .gone 0 :: .gone 0 :: .gone 0 :: .gone 0 :: .gone 0 :: .gone 0 :: .gone 0 :: .gone 0 :: .gone 0 :: .gone 0 :: .gone 0 :: .gone 0 :: .gone 0 :: .gone 0 :: .gone 0 :: .gone 0 :: .gone 0 :: .gone 0 :: .gone 0 :: .gone 0 :: .gone 0 :: .gone 0 :: .gone 0 :: .gone 0 :: .gone 0 :: .gone 0 :: .gone 0 :: .gone 0 :: .gone 0 :: .gone 0 :: .gone 0 :: .gone 0 :: .gone 0 :: .gone 0 :: .gone 0 :: .gone 0 :: .gone 0 :: .gone 0 :: .gone 0 :: .gone 0 :: .gone 0 :: .gone 0 :: .gone 0 :: .gone 0 :: .gone 0 :: .gone 0 :: .gone 0 :: .gone 0 :: .gone 0 :: .gone 0 :: .gone 0 :: .gone 0 :: []), [some (plateO es true ls off left), none]⟩) (by kernel_rfl) ?_
      refine runV trivial trivial ?_
      exact Qe_r (fin_own2 rfl rfl rfl rfl rfl (by simp) rfl)
end
end P1
end Go.Vq

namespace Go.Vq
namespace P1
open Go
set_option maxRecDepth 1000000
set_option maxHeartbeats 8000000
/-! What is put is read: plain laws. -/
theorem leN_le8 (n : Nat) (h : n < 2 ^ 64) : leN (le8 n) = n := by
  simp only [leN, le8, List.foldr]
  omega
theorem le8_lt (n : Nat) : ∀ x ∈ le8 n, x < 256 := by
  intro x hx
  simp [le8] at hx
  omega
theorem pad48_lt {l : List Nat} (h : ∀ x ∈ l, x < 256) : ∀ x ∈ pad48 l, x < 256 := by
  intro x hx
  rcases List.mem_append.1 hx with hx | hx
  · exact h x hx
  · have := List.eq_of_mem_replicate hx; omega
theorem cellM_C {n : Nat} {l : List Nat} (hl : l.length ≤ 48) (hb : ∀ x ∈ l, x < 256) : C64 (cellM n l) := by
  refine ⟨by simp [cellM, le8, pad48_len hl], fun x hx => ?_⟩
  rcases List.mem_append.1 hx with hx | hx
  · exact le8_lt n x hx
  · rcases List.mem_append.1 hx with hx | hx
    · exact pad48_lt hb x hx
    · exact le8_lt n x hx
theorem cellM_A (n : Nat) (l : List Nat) (h : n < 2 ^ 64) : endA (cellM n l) = n := by
  unfold endA cellM
  rw [show List.take 8 (le8 n ++ (pad48 l ++ le8 n)) = le8 n from List.take_left' rfl]; exact leN_le8 n h
theorem cellM_B (n : Nat) (l : List Nat) (hl : l.length ≤ 48) (h : n < 2 ^ 64) : endB (cellM n l) = n := by
  unfold endB cellM
  rw [← List.append_assoc, List.drop_left' (by simp [le8, pad48_len hl])]; exact leN_le8 n h
theorem cellM_mark (n : Nat) (l : List Nat) (hl : l.length ≤ 48) (h : n < 2 ^ 64) : markN (cellM n l) = n := by
  unfold markN
  rw [cellM_A n l h, cellM_B n l hl h, if_pos rfl]
theorem cellM_mid (n : Nat) (l : List Nat) (hl : l.length ≤ 48) : mid (cellM n l) = pad48 l := by
  unfold mid cellM
  rw [show List.drop 8 (le8 n ++ (pad48 l ++ le8 n)) = pad48 l ++ le8 n from List.drop_left' rfl, List.take_left' (pad48_len hl)]
theorem find_app_eq (ls : List (Nat × List Nat)) (a : Nat) (c : List Nat) : find (ls ++ [(a, c)]) (a : Int) = some c := by simp [find]
theorem find_app_ne (ls : List (Nat × List Nat)) (a : Nat) (c : List Nat) (i : Int) (h : (a : Int) ≠ i) : find (ls ++ [(a, c)]) i = find ls i := by simp [find, h]
theorem getC_app_eq (es : List (List Nat)) (ls : List (Nat × List Nat)) (a : Nat) (c : List Nat) (h : a < es.length) : getC es (ls ++ [(a, c)]) (a : Int) = c := by
  unfold getC
  rw [if_pos (by simp [inR]; omega), find_app_eq]; rfl
theorem getC_app_ne (es : List (List Nat)) (ls : List (Nat × List Nat)) (a : Nat) (c : List Nat) (i : Int) (h : (a : Int) ≠ i) : getC es (ls ++ [(a, c)]) i = getC es ls i := by
  unfold getC
  rw [find_app_ne _ _ _ _ h]
theorem rdN_congr {es es' : List (List Nat)} {ls ls' : List (Nat × List Nat)} {i r : Nat} : ∀ (k a : Nat), (∀ j, a ≤ j → j < a + k → getC es ls ((i + j : Nat) : Int) = getC es' ls' ((i + j : Nat) : Int)) → rdN es ls i r a k = rdN es' ls' i r a k
  | 0, _, _ => rfl
  | k + 1, a, h => by
    simp only [rdN]
    rw [h a (Nat.le_refl _) (by omega), rdN_congr k (a + 1) fun j h1 h2 => h j (by omega) (by omega)]
theorem readN_congr {es : List (List Nat)} {ls ls' : List (Nat × List Nat)} {s : Nat} (h : ∀ j, j < es.length / 2 → getC es ls ((s * (es.length / 2) + j : Nat) : Int) = getC es ls' ((s * (es.length / 2) + j : Nat) : Int)) : readN es ls (s : Int) = readN es ls' (s : Int) := by
  unfold readN
  split
  · rfl
  · rename_i hn
    have h0 := h 0 (by omega)
    simp only [Nat.add_zero] at h0
    simp only [Int.toNat_natCast, h0]
    rw [rdN_congr (es' := es) (ls' := ls') (es.length / 2) 0 fun j _ hj => h j (by omega)]
/-- A round put on a side is told. -/
theorem readN_put (es : List (List Nat)) (ls : List (Nat × List Nat)) (s r : Nat) (l : List Nat) (hs : s < 2) (hl : l.length ≤ 48) (hr : 1 ≤ r) (hr2 : r ≤ 1099511627776) (he : 0 < es.length / 2) :
    ∃ L, readN es (ls ++ [(s * (es.length / 2), cellM (mkN r 0) l)]) (s : Int) = (r, pad48 l :: L) := by
  have hi : s * (es.length / 2) < es.length := by
    have : s = 0 ∨ s = 1 := by omega
    rcases this with rfl | rfl <;> omega
  have hn : mkN r 0 < 2 ^ 64 := by unfold mkN; omega
  unfold readN
  rw [if_neg (by omega)]
  simp only [Int.toNat_natCast]
  rw [getC_app_eq _ _ _ _ hi, cellM_mark _ _ hl hn]
  have e : mkN r 0 / 65536 = r := by unfold mkN; omega
  rw [e, if_neg (by rintro (h | h | h); omega; omega; exact h rfl)]
  obtain ⟨k, hk⟩ : ∃ k, es.length / 2 = k + 1 := ⟨es.length / 2 - 1, by omega⟩
  have e2 : rdN es (ls ++ [(s * (es.length / 2), cellM (mkN r 0) l)]) (s * (es.length / 2)) r 0 (k + 1) = pad48 l :: rdN es (ls ++ [(s * (es.length / 2), cellM (mkN r 0) l)]) (s * (es.length / 2)) r 1 k := by
    simp only [rdN, Nat.add_zero, getC_app_eq _ _ _ _ hi, cellM_mark _ _ hl hn, cellM_mid _ _ hl, if_true]
  exact ⟨_, by rw [← e2, ← hk]⟩
theorem topN_le (es : List (List Nat)) (ls : List (Nat × List Nat)) (T : Nat) (h : ∀ i : Nat, endA (getC es ls i) / 65536 ≤ T ∧ endB (getC es ls i) / 65536 ≤ T) : ∀ n, topN es ls n ≤ T
  | 0 => Nat.zero_le _
  | n + 1 => by
    have h1 := topN_le es ls T h n
    obtain ⟨h2, h3⟩ := h n
    simp only [topN]
    omega
theorem getC_in {es : List (List Nat)} {ls : List (Nat × List Nat)} {p : List Nat → Prop} (h0 : p zero64) (h1 : ∀ c ∈ es, p c) (h2 : ∀ w ∈ ls, p w.2) (i : Int) : p (getC es ls i) := by
  unfold getC
  split
  · rename_i hi
    cases hf : find ls i with
    | some c =>
      unfold find at hf
      obtain ⟨w, hw, rfl⟩ := Option.map_eq_some_iff.1 hf
      exact h2 w (List.mem_reverse.1 (List.mem_of_find?_eq_some hw))
    | none =>
      have hin : i.toNat < es.length := by simp [inR] at hi; omega
      simp only [Option.getD_none, List.getD_eq_getElem?_getD, List.getElem?_eq_getElem hin, Option.getD_some]
      exact h1 _ (List.getElem_mem _)
  · exact h0
/-- What marks' functions answer. -/
structure Marks (G : VProg) : Prop where
  put : ∀ (side : Int) (r : Nat) (at' : Int) (inner : List Nat) (es fz ls off left) (_ : es.length ≤ 4096) (_ : LR left) (_ : (ls.length + 1) * 72 ≤ 140737488355328) (_ : r < 2 ^ 64),
    lim G 15 [q0, .int .i64 side, .int .u64 r, .int .i64 at', .isl 0 1 (byN inner)] [plateO es fz ls off left] =
      if 0 ≤ side ∧ side < 2 ∧ 1 ≤ r ∧ r ≤ 1099511627776 ∧ 0 ≤ at' ∧ at' < (es.length / 2 : Nat) ∧ inner.length ≤ 48 then
        (if spO off left then some (.int .i64 72, [plateO es fz ls true left]) else some (.int .i64 0, [plateO es fz (ls ++ [((side.toNat * (es.length / 2) + at'.toNat), cellM (mkN r at'.toNat) inner)]) false (spL off left)]))
      else some (.int .i64 81, [plateO es fz ls off left])
  read : ∀ (side : Int) (es fz ls off left) (_ : PW es ls),
    lim G 14 [q0, .int .i64 side] [plateO es fz ls off left] = some (readV (readN es ls side), [plateO es (fz || decide (0 ≤ side ∧ side < 2 ∧ 0 < es.length / 2)) ls off left])
  top : ∀ (es fz ls off left) (_ : PW es ls), lim G 16 [q0] [plateO es fz ls off left] = some (.int .u64 (topN es ls es.length : Nat), [plateO es (fz || decide (0 < es.length)) ls off left])
  room : ∀ es fz ls off left, es.length < 2 ^ 40 → lim G 28 [q0] [plateO es fz ls off left] = some (.int .i64 ((es.length / 2 : Nat) : Int), [plateO es fz ls off left])
theorem marks_ok (G : VProg) (hc : ∀ es : List V, es.length ≤ 140737488355328 → lim G 51 [.isl 0 1 es] [] = some (.xsl 0 1 es, []))
    (k1 : G 58 = some (.code v58)) (k2 : G 56 = some (.code v56)) (k3 : G 25 = some (.code v25)) (k4 : G 53 = some (.code v53))
    (k5 : G 52 = some (.code v52)) (k6 : G 69 = some (.code v69)) (k7 : G 80 = some (.iter (backwardI true 65)))
    (m1 : G 70 = some (.code v70)) (m2 : G 81 = some (.code v81)) (m3 : G 88 = some (.iter (backwardI false 1)))
    (m4 : G 54 = some (.code v54)) (m5 : G 48 = some (.code v48)) (m6 : G 50 = some (.code v50)) (m7 : G 28 = some (.code v28)) (m8 : G 49 = some (.code v49))
    (m9 : G 16 = some (.code v16)) (m10 : G 15 = some (.code v15)) (m11 : G 14 = some (.code v14)) : Marks G := by
  have t45 := there G k1
  have t46 := spend G k2
  have tl := plen G k5
  have tb := back G k6
  have tput := put G k3 t45 t46
  have tget := pget G k4 k7 t45 tb
  have bB := backB G m2
  have num := number8 G m1 m3 bB
  have en := ends G m4 num
  have mk := marked G m5 en
  have ma := mark G m6
  have ro := room G m7 tl
  have ce := fun s a hs ha es fz ls off left (h : PW es ls) => mcell G m8 ro tget s a hs ha es fz ls off left (fun c hc => (h.c c hc).1) (fun w hw => (h.w w hw).2.1) (by have := h.n; omega) h.m (getC_C h _).1
  exact ⟨fun side r at' inner es fz ls off left hn hl hb hr => mput G m10 ro ma tput side r at' inner es fz ls off left hn hl hb hr,
    fun side es fz ls off left h => mread G m11 ro ma mk hc ce side es fz ls off left h,
    fun es fz ls off left h => top G m9 tl tget en es fz ls off left h, ro⟩
end P1
end Go.Vq

namespace Go.Vq
namespace P1
open Go
set_option maxRecDepth 1000000
set_option maxHeartbeats 8000000
abbrev b4 : VCode := .seq (.region [⟨some 4, .assign (.val (.bool false)), none, 0⟩] false) (.seq (.seq (.region [⟨some 15, .call true 12 0 [], none, 0⟩, ⟨some 16, .un (.not) (.tmp 15), none, 1⟩] false) (.cond (.tmp 16) (.seq (.region [⟨some 4, .assign (.val (.bool false)), none, 0⟩] false) (.ret)) (.skip))) (.seq (.seq (.region [⟨some 17, .move (.tmp 0), none, 0⟩, ⟨some 18, .len (.slc 1) (.tmp 17), none, 1⟩, ⟨some 19, .bin (.gtr) (.tmp 18) (.val (.int .i64 40)), none, 3⟩, ⟨some 20, .move (.tmp 19), none, 7⟩, ⟨some 21, .move (.tmp 1), some (20, false), 15⟩, ⟨some 22, .len (.slc 1) (.tmp 21), some (20, false), 31⟩, ⟨some 23, .bin (.gtr) (.tmp 22) (.val (.int .i64 48)), some (20, false), 63⟩, ⟨some 24, .pick (.tmp 20) (.val (.bool true)) (.tmp 23), none, 127⟩] false) (.cond (.tmp 24) (.seq (.region [⟨some 4, .assign (.val (.bool true)), none, 0⟩] false) (.ret)) (.skip))) (.seq (.region [⟨some 25, .call false 13 0 [(.val (.int .i64 9))], none, 0⟩, ⟨some 5, .assign (.tmp 25), none, 1⟩] false) (.seq (.region [⟨some 6, .assign (.val (.int .u64 0)), none, 0⟩] false) (.seq (.seq (.region [⟨some 26, .move (.tmp 0), none, 0⟩, ⟨some 27, .len (.slc 1) (.tmp 26), none, 1⟩, ⟨some 28, .move (.val (.int .i64 0)), none, 0⟩] false) (.block 0 (some []) (.loop (some [0, 1, 5, 6, 26, 27, 28]) (.seq (.region [⟨some 29, .bin (.lss) (.tmp 28) (.tmp 27), none, 0⟩] false) (.seq (.cond (.tmp 29) (.skip) (.exit 0)) (.seq (.block 1 none (.seq (.region [⟨some 30, .move (.tmp 28), none, 0⟩, ⟨some 31, .indexAddr none 1 (.tmp 26) (.tmp 28), none, 0⟩, ⟨some 32, .load false 1 (.tmp 31), none, 2⟩, ⟨some 7, .assign (.tmp 30), none, 7⟩, ⟨some 8, .assign (.tmp 32), none, 15⟩] false) (.seq (.seq (.region [⟨some 33, .move (.tmp 8), none, 0⟩, ⟨some 34, .bin (.lss) (.tmp 33) (.val (.int .u64 1)), none, 1⟩, ⟨some 35, .move (.tmp 34), none, 3⟩, ⟨some 36, .move (.tmp 8), some (35, false), 7⟩, ⟨some 37, .bin (.gtr) (.tmp 36) (.val (.int .u64 1099511627776)), some (35, false), 15⟩, ⟨some 38, .pick (.tmp 35) (.val (.bool true)) (.tmp 37), none, 31⟩] false) (.cond (.tmp 38) (.seq (.region [⟨some 4, .assign (.val (.bool true)), none, 0⟩] false) (.ret)) (.skip))) (.seq (.region [⟨some 40, .move (.tmp 5), none, 0⟩, ⟨some 41, .move (.tmp 7), none, 0⟩, ⟨some 42, .bin (.rem) (.tmp 41) (.val (.int .i64 2)), none, 2⟩, ⟨some 43, .bin (.sub) (.val (.int .i64 1)) (.tmp 42), none, 6⟩, ⟨some 44, .call false 14 4 [(.tmp 40), (.tmp 43)], none, 15⟩, ⟨some 39, .move (.tmp 44), none, 31⟩, ⟨some 45, .extract (.tmp 39) 0, none, 63⟩, ⟨some 46, .extract (.tmp 39) 1, none, 63⟩, ⟨some 9, .assign (.tmp 45), none, 127⟩, ⟨some 10, .assign (.tmp 46), none, 511⟩] false) (.seq (.seq (.region [⟨some 47, .move (.tmp 5), none, 0⟩, ⟨some 48, .move (.tmp 7), none, 0⟩, ⟨some 49, .bin (.rem) (.tmp 48) (.val (.int .i64 2)), none, 2⟩, ⟨some 50, .move (.tmp 8), none, 0⟩, ⟨some 51, .move (.tmp 1), none, 0⟩, ⟨some 52, .call false 15 4 [(.tmp 47), (.tmp 49), (.tmp 50), (.val (.int .i64 0)), (.tmp 51)], none, 31⟩, ⟨some 53, .eq true (.num) (.tmp 52) (.val (.int .i64 0)), none, 63⟩] false) (.cond (.tmp 53) (.seq (.region [⟨some 4, .assign (.val (.bool false)), none, 0⟩] false) (.ret)) (.skip))) (.seq (.region [⟨some 54, .move (.tmp 6), none, 0⟩, ⟨some 55, .move (.tmp 8), none, 0⟩, ⟨some 56, .max [(.tmp 54), (.tmp 55)], none, 3⟩, ⟨some 6, .assign (.tmp 56), none, 7⟩] false) (.seq (.region [⟨some 58, .move (.tmp 5), none, 0⟩, ⟨some 59, .move (.tmp 7), none, 0⟩, ⟨some 60, .bin (.rem) (.tmp 59) (.val (.int .i64 2)), none, 2⟩, ⟨some 61, .call false 14 4 [(.tmp 58), (.tmp 60)], none, 7⟩, ⟨some 57, .move (.tmp 61), none, 15⟩, ⟨some 62, .extract (.tmp 57) 0, none, 31⟩, ⟨some 63, .extract (.tmp 57) 1, none, 31⟩, ⟨some 11, .assign (.tmp 62), none, 63⟩, ⟨some 12, .assign (.tmp 63), none, 255⟩] false) (.seq (.region [⟨some 65, .move (.tmp 5), none, 0⟩, ⟨some 66, .move (.tmp 7), none, 0⟩, ⟨some 67, .bin (.rem) (.tmp 66) (.val (.int .i64 2)), none, 2⟩, ⟨some 68, .bin (.sub) (.val (.int .i64 1)) (.tmp 67), none, 6⟩, ⟨some 69, .call false 14 4 [(.tmp 65), (.tmp 68)], none, 15⟩, ⟨some 64, .move (.tmp 69), none, 31⟩, ⟨some 70, .extract (.tmp 64) 0, none, 63⟩, ⟨some 71, .extract (.tmp 64) 1, none, 63⟩, ⟨some 13, .assign (.tmp 70), none, 127⟩, ⟨some 14, .assign (.tmp 71), none, 511⟩] false) (.seq (.region [⟨some 72, .move (.tmp 11), none, 0⟩, ⟨some 73, .move (.tmp 8), none, 0⟩, ⟨some 74, .eq true (.num) (.tmp 72) (.tmp 73), none, 3⟩, ⟨some 75, .move (.tmp 74), none, 7⟩, ⟨some 76, .move (.tmp 12), some (75, false), 15⟩, ⟨some 77, .len (.slc 1) (.tmp 76), some (75, false), 31⟩, ⟨some 78, .bin (.lss) (.tmp 77) (.val (.int .i64 1)), some (75, false), 63⟩, ⟨some 79, .pick (.tmp 75) (.val (.bool true)) (.tmp 78), none, 127⟩, ⟨some 80, .move (.tmp 79), none, 255⟩, ⟨some 81, .move (.tmp 12), some (80, false), 511⟩, ⟨some 82, .indexAddr none 1 (.tmp 81) (.val (.int .i64 0)), some (80, false), 1023⟩, ⟨some 83, .load false 1 (.tmp 82), some (80, false), 2047⟩, ⟨some 84, .move (.tmp 1), some (80, false), 511⟩, ⟨some 85, .len (.slc 1) (.tmp 84), some (80, false), 4607⟩, ⟨some 86, .slice (.slc 1) (.tmp 83) none (some (.tmp 85)) none, some (80, false), 16383⟩, ⟨some 87, .conv (.text) (.tmp 86), some (80, false), 32767⟩, ⟨some 88, .move (.tmp 1), some (80, false), 511⟩, ⟨some 89, .conv (.text) (.tmp 88), some (80, false), 66047⟩, ⟨some 90, .eq true (.num) (.tmp 87) (.tmp 89), some (80, false), 262143⟩, ⟨some 91, .pick (.tmp 80) (.val (.bool true)) (.tmp 90), none, 524287⟩, ⟨some 92, .move (.tmp 91), none, 1048575⟩, ⟨some 93, .move (.tmp 12), some (92, false), 2097151⟩, ⟨some 94, .indexAddr none 1 (.tmp 93) (.val (.int .i64 0)), some (92, false), 4194303⟩, ⟨some 95, .load false 1 (.tmp 94), some (92, false), 8388607⟩, ⟨some 96, .move (.tmp 1), some (92, false), 2097151⟩, ⟨some 97, .len (.slc 1) (.tmp 96), some (92, false), 18874367⟩, ⟨some 98, .slice (.slc 1) (.tmp 95) (some (.tmp 97)) none none, some (92, false), 67108863⟩, ⟨some 99, .conv (.text) (.tmp 98), some (92, false), 134217727⟩, ⟨some 100, .move (.tmp 1), some (92, false), 2097151⟩, ⟨some 101, .len (.slc 1) (.tmp 100), some (92, false), 270532607⟩, ⟨some 102, .bin (.sub) (.val (.int .i64 48)) (.tmp 101), some (92, false), 807403519⟩, ⟨some 103, .makeSlice 1 1 (.int .u8 0) (.tmp 102) (.tmp 102), some (92, false), 1881145343⟩, ⟨some 104, .conv (.text) (.tmp 103), some (92, false), 4028628991⟩, ⟨some 105, .eq true (.num) (.tmp 99) (.tmp 104), some (92, false), 8589934591⟩, ⟨some 106, .pick (.tmp 92) (.val (.bool true)) (.tmp 105), none, 17179869183⟩, ⟨some 107, .move (.tmp 106), none, 34359738367⟩, ⟨some 108, .move (.tmp 10), some (107, false), 68719476735⟩, ⟨some 109, .len (.slc 1) (.tmp 108), some (107, false), 137438953471⟩, ⟨some 110, .move (.tmp 14), some (107, false), 68719476735⟩, ⟨some 111, .len (.slc 1) (.tmp 110), some (107, false), 343597383679⟩, ⟨some 112, .eq true (.num) (.tmp 109) (.tmp 111), some (107, false), 1099511627775⟩, ⟨some 113, .pick (.tmp 107) (.val (.bool true)) (.tmp 112), none, 2199023255551⟩, ⟨some 114, .move (.tmp 113), none, 4398046511103⟩, ⟨some 115, .move (.tmp 5), some (114, false), 8796093022207⟩, ⟨some 116, .call false 16 4 [(.tmp 115)], some (114, false), 17592186044415⟩, ⟨some 117, .move (.tmp 6), some (114, false), 8796093022207⟩, ⟨some 118, .bin (.gtr) (.tmp 116) (.tmp 117), some (114, false), 70368744177663⟩, ⟨some 119, .pick (.tmp 114) (.val (.bool true)) (.tmp 118), none, 140737488355327⟩] true) (.cond (.tmp 119) (.seq (.region [⟨some 4, .assign (.val (.bool false)), none, 0⟩] false) (.ret)) (.skip))))))))))) (.region [⟨some 120, .bin (.add) (.tmp 28) (.val (.int .i64 1)), none, 0⟩, ⟨some 28, .move (.tmp 120), none, 1⟩] false))))))) (.seq (.region [⟨some 4, .assign (.val (.bool true)), none, 0⟩] false) (.ret)))))))
abbrev v4 : VFunc := { nparams := 2, ntmps := 121, nsites := 4, results := [.tmp 4], body := b4 }
abbrev rsV (rs : List Nat) : List V := rs.map fun r : Nat => V.int .u64 (r : Int)
def es9 : List (List Nat) := List.replicate 9 zero64
structure Ri (inner : List Nat) (T : Nat) (ls : List (Nat × List Nat)) : Prop where
  w : ∀ w ∈ ls, w.1 < 9 ∧ ∃ r, 1 ≤ r ∧ r ≤ 1099511627776 ∧ r ≤ T ∧ w.2 = cellM (mkN r 0) inner
  m : ls.length ≤ 40
theorem Ri.pw {inner : List Nat} {T : Nat} {ls : List (Nat × List Nat)} (h : Ri inner T ls) (hl : inner.length ≤ 48) (hb : ∀ x ∈ inner, x < 256) : PW es9 ls := by
  refine ⟨fun c hc => ?_, fun w hw => ?_, by decide, by have := h.m; omega⟩
  · rw [List.eq_of_mem_replicate hc]; exact zero_C
  · obtain ⟨h1, r, _, _, _, h2⟩ := h.w w hw
    exact ⟨by simpa [es9] using h1, by rw [h2]; exact cellM_C hl hb⟩
theorem Ri.top {inner : List Nat} {T : Nat} {ls : List (Nat × List Nat)} (h : Ri inner T ls) (hl : inner.length ≤ 48) : topN es9 ls es9.length ≤ T := by
  refine topN_le _ _ _ (fun i => ?_) _
  refine getC_in (p := fun c => endA c / 65536 ≤ T ∧ endB c / 65536 ≤ T) ⟨?_, ?_⟩ (fun c hc => ?_) (fun w hw => ?_) _
  · rw [show endA zero64 = 0 by decide]; omega
  · rw [show endB zero64 = 0 by decide]; omega
  · rw [List.eq_of_mem_replicate hc, show endA zero64 = 0 by decide, show endB zero64 = 0 by decide]; omega
  · obtain ⟨_, r, h1, h2, h3, h4⟩ := h.w w hw
    rw [h4, cellM_A _ _ (by unfold mkN; omega), cellM_B _ _ hl (by unfold mkN; omega)]
    unfold mkN
    omega
abbrev RiA := Nat × Nat × List (Nat × List Nat) × Bool
def SRi (rs : List Nat) (inner : List Nat) (a : RiA) : St :=
  ⟨(.isl 0 1 (rsV rs) :: .isl 0 1 (byN inner) :: .gone 0 :: .gone 0 :: .gone 0 :: q0 :: .int .u64 a.2.1 :: .gone 0 :: .gone 0 :: .gone 0 :: .gone 0 :: .gone 0 :: .gone 0 :: .gone 0 :: .gone 0 :: .gone 0 :: .gone 0 :: .gone 0 :: .gone 0 :: .gone 0 :: .gone 0 :: .gone 0 :: .gone 0 :: .gone 0 :: .gone 0 :: .gone 0 :: .isl 0 1 (rsV rs) :: .int .i64 rs.length :: .int .i64 a.1 :: .gone 0 :: .gone 0 :: .gone 0 :: .gone 0 :: .gone 0 :: .gone 0 :: .gone 0 :: .gone 0 :: .gone 0 :: .gone 0 :: .gone 0 :: .gone 0 :: .gone 0 :: .gone 0 :: .gone 0 :: .gone 0 :: .gone 0 :: .gone 0 :: .gone 0 :: .gone 0 :: .gone 0 :: .gone 0 :: .gone 0 :: .gone 0 :: .gone 0 :: .gone 0 :: .gone 0 :: .gone 0 :: .gone 0 :: .gone 0 :: .gone 0 :: .gone 0 :: .gone 0 :: .gone 0 :: .gone 0 :: .gone 0 :: .gone 0 :: .gone 0 :: .gone 0 :: .gone 0 :: .gone 0 :: .gone 0 :: .gone 0 :: .gone 0 :: .gone 0 :: .gone 0 :: .gone 0 :: .gone 0 :: .gone 0 :: .gone 0 :: .gone 0 :: .gone 0 :: .gone 0 :: .gone 0 :: .gone 0 :: .gone 0 :: .gone 0 :: .gone 0 :: .gone 0 :: .gone 0 :: .gone 0 :: .gone 0 :: .gone 0 :: .gone 0 :: .gone 0 :: .gone 0 :: .gone 0 :: .gone 0 :: .gone 0 :: .gone 0 :: .gone 0 :: .gone 0 :: .gone 0 :: .gone 0 :: .gone 0 :: .gone 0 :: .gone 0 :: .gone 0 :: .gone 0 :: .gone 0 :: .gone 0 :: .gone 0 :: .gone 0 :: .gone 0 :: .gone 0 :: .gone 0 :: .gone 0 :: .gone 0 :: .gone 0 :: .gone 0 :: .gone 0 :: .gone 0 :: []), [some (plateO es9 a.2.2.2 a.2.2.1 false (-1)), none, none, none]⟩
section
variable (G : VProg)
theorem rise (hG : G 4 = some (.code v4)) (hA : Vq.lim G 12 [] [] = some (.bool true, [])) (hN : ∀ n : Int, lim G 13 [.int .i64 n] [] = some (q0, [plateO (List.replicate (max 0 (min n 4096)).toNat zero64) false [] false (-1)]))
    (hM : Marks G) (rs : List Nat) (hrs : ∀ r ∈ rs, r < 2 ^ 64) (inner : List Nat) (hb : ∀ x ∈ inner, x < 256) : lim G 4 [.isl 0 1 (rsV rs), .isl 0 1 (byN inner)] [] = some (.bool true, []) := by
  cases b1 : decide (40 < (rs.length : Int))
  case true => exact lim_fun hG (h := runV b1 trivial trivial)
  cases b2 : decide (48 < (inner.length : Int))
  case true => exact lim_fun hG (h := runV (And.intro b1 b2) trivial trivial)
  have hr40 : rs.length ≤ 40 := by simp at b1; omega
  have hl : inner.length ≤ 48 := by simp at b2; omega
  have hnew : lim G 13 [.int .i64 9] [] = some (q0, [plateO es9 false [] false (-1)]) := hN 9
  have he9 : es9.length = 9 := rfl
  have he92 : es9.length / 2 = 4 := rfl
  refine lim_fun hG (h := runV (And.intro b1 b2) trivial ?_)
  refine WL_loop (SRi rs inner) (fun a => a.1 ≤ rs.length ∧ a.2.1 < 2 ^ 64 ∧ Ri inner a.2.1 a.2.2.1 ∧ a.2.2.1.length = a.1) (fun a => rs.length - a.1) ?_ (0, 0, [], false) _ ⟨Nat.zero_le _, by decide, ⟨by simp, by simp⟩, rfl⟩ (by kernel_rfl)
  rintro ⟨i, T, ls, fz⟩ ⟨hi, hT, hri, hlen⟩
  simp only at hi hT hri hlen
  by_cases hlt0 : i < rs.length
  · have hlt : decide ((i : Int) < (rs.length : Int)) = true := by simp; omega
    have i1 := inc64 i (by omega)
    obtain ⟨r, hr⟩ : ∃ r, r = rs[i] := ⟨_, rfl⟩
    have hr64 : r < 2 ^ 64 := by rw [hr]; exact hrs _ (List.getElem_mem _)
    have hg : (rsV rs)[i]? = some (.int .u64 (r : Int)) := by rw [hr]; simp [hlt0]
    have F := And.intro hlt (And.intro i1 hg)
    unfold SRi
    cases b3 : decide ((r : Int) < 1)
    case true =>
      cases fz
      all_goals
        refine runV (And.intro b3 F) trivial ?_
        exact Qr_r (Qb_r (Qs_r (Qe_r (by kernel_rfl))))
    cases b4 : decide ((1099511627776 : Int) < (r : Int))
    case true =>
      cases fz
      all_goals
        refine runV (And.intro b3 (And.intro b4 F)) trivial ?_
        exact Qr_r (Qb_r (Qs_r (Qe_r (by kernel_rfl))))
    have k3 : 1 ≤ r := by simp at b3; omega
    have k4 : r ≤ 1099511627776 := by simp at b4; omega
    obtain ⟨s, hs⟩ : ∃ s, s = i % 2 := ⟨_, rfl⟩
    obtain ⟨t, ht⟩ : ∃ t, t = 1 - s := ⟨_, rfl⟩
    have hs2 : s < 2 := by omega
    have ht2 : t < 2 ∧ t ≠ s := by omega
    have w1 : (i : Int).tmod 2 = (s : Int) := by rw [hs, Int.tmod_eq_emod_of_nonneg (by omega)]; rfl
    have w2 : IntKind.i64.wrap (1 - (s : Int)) = (t : Int) := by rw [wrapi64 _ (by omega) (by omega)]; omega
    have pw := hri.pw hl hb
    have t1 := hM.read (t : Int) es9 fz ls false (-1) pw
    rw [decide_eq_true (by rw [he92]; omega), Bool.or_true] at t1
    have t2 := hM.put (s : Int) r 0 inner es9 true ls false (-1) (by decide) ⟨by omega, by omega⟩ (by omega) hr64
    rw [if_pos (by rw [he92]; omega)] at t2
    simp only [Int.toNat_natCast, Int.toNat_zero, Nat.add_zero, he92] at t2
    obtain ⟨c, hc⟩ : ∃ c, c = cellM (mkN r 0) inner := ⟨_, rfl⟩
    rw [← hc] at t2
    obtain ⟨ls', hls⟩ : ∃ ls', ls' = ls ++ [(s * 4, c)] := ⟨_, rfl⟩
    obtain ⟨T', hT'⟩ : ∃ T', T' = max T r := ⟨_, rfl⟩
    have hri' : Ri inner T' ls' := by
      refine ⟨fun w hw => ?_, by rw [hls]; simp; omega⟩
      rw [hls] at hw
      rcases List.mem_append.1 hw with hw | hw
      · obtain ⟨q1, q, q2, q3, q4, q5⟩ := hri.w w hw
        exact ⟨q1, q, q2, q3, by omega, q5⟩
      · simp only [List.mem_singleton] at hw
        subst hw
        exact ⟨by simp only; omega, r, k3, k4, by omega, hc⟩
    have pw' := hri'.pw hl hb
    have htop := hri'.top hl
    have t5 := hM.top es9 true ls' false (-1) pw'
    have t3 := hM.read (s : Int) es9 true ls' false (-1) pw'
    have t4 := hM.read (t : Int) es9 true ls' false (-1) pw'
    simp only [Bool.true_or] at t3 t4 t5
    obtain ⟨L, hL⟩ := readN_put es9 ls s r inner hs2 hl k3 k4 (by rw [he92]; omega)
    rw [he92, ← hc, ← hls] at hL
    rw [hL] at t3
    have hsame : readN es9 ls' (t : Int) = readN es9 ls (t : Int) := by
      rw [hls]
      refine readN_congr fun j hj => ?_
      rw [he92] at hj
      rw [getC_app_ne _ _ _ _ _ (by rw [he92]; omega)]
    rw [hsame] at t4
    have sp : spO false (-1) = false := rfl
    have sl : spL false (-1) = -1 := rfl
    rw [sp, sl] at t2
    simp only [Bool.false_eq_true, if_false] at t2
    rw [← hls] at t2
    obtain ⟨⟨ro, lo⟩, hro⟩ : ∃ x, x = readN es9 ls (t : Int) := ⟨_, rfl⟩
    rw [← hro] at t1 t4
    obtain ⟨p, hp⟩ : ∃ p, p = pad48 inner := ⟨_, rfl⟩
    rw [← hp] at t3
    obtain ⟨LL, hLL⟩ : ∃ LL, LL = p :: L := ⟨_, rfl⟩
    rw [← hLL] at t3
    have u1 : (LL.map iB)[0]? = some (.isl 0 1 (byN p)) := by rw [hLL]; rfl
    have u2 : decide ((LL.length : Int) < 1) = false := by rw [hLL]; simp; omega
    have u2' : 0 < LL.length := by rw [hLL]; simp
    obtain ⟨n5, hn5⟩ : ∃ n, n = topN es9 ls' es9.length := ⟨_, rfl⟩
    rw [← hn5] at t5 htop
    have u3 : decide ((T' : Int) < (n5 : Int)) = false := by simp; omega
    have u4 : (if (T : Int) < (r : Int) then (r : Int) else (T : Int)) = (T' : Int) := by rw [hT']; split <;> omega
    have hpl : p.length = 48 := by rw [hp]; exact pad48_len hl
    have u5 : List.take inner.length p = inner := by rw [hp]; exact List.take_left' rfl
    obtain ⟨z, hz⟩ : ∃ z, z = List.replicate (48 - inner.length) 0 := ⟨_, rfl⟩
    have u6 : List.drop inner.length p = z := by rw [hp, hz]; exact List.drop_left' rfl
    have u7 : IntKind.i64.wrap (48 - (inner.length : Int)) = ((48 - inner.length : Nat) : Int) := by rw [wrapi64 _ (by omega) (by omega)]; omega
    have u8 : textV (byN inner) = some (strN inner) := textV_by _
    have u9 : textV (byN z) = some (strN z) := textV_by _
    have u10 : List.replicate (48 - inner.length) (V.int .u8 0) = byN z := by rw [hz]; exact byN_rep _
    have u11 : List.take (48 - inner.length) (List.drop inner.length (byN p)) = byN z := by rw [byN_sub', u6, List.take_of_length_le (by rw [hz]; simp)]
    have u12 : List.take inner.length (byN p) = byN inner := by rw [byN_take, u5]
    clear hL hLL hp hro hn5
    cases fz
    all_goals
      refine runV (And.intro b3 (And.intro b4 (And.intro w1 (And.intro w2 (And.intro u1 (And.intro u2 (And.intro u3 (And.intro u4 (And.intro u5 (And.intro u6 (And.intro u7 (And.intro u8 (And.intro u9 (And.intro u10 (And.intro u11 (And.intro u12 (And.intro hpl F))))))))))))))))) trivial ?_
      exact Qr_n (i + 1, T', ls', true) (by kernel_rfl) ⟨⟨by simp only; omega, by simp only; omega, hri', by rw [hls]; simp [hlen]⟩, by simp only; omega⟩
  · obtain rfl : i = rs.length := by omega
    have hlt : decide ((rs.length : Int) < (rs.length : Int)) = false := by simp
    unfold SRi
    cases fz
    all_goals
      refine runV hlt trivial ?_
      refine Qr_x ?_
      refine Qb_x (σ1 := ⟨(.gone 0 :: .gone 0 :: .gone 0 :: .gone 0 :: .gone 0 :: .gone 0 :: .gone 0 :: .gone 0 :: .gone 0 :: .gone 0 :: .gone 0 :: .gone 0 :: .gone 0 :: .gone 0 :: .gone 0 :: .gone 0 :: .gone 0 :: .gone 0 :: .gone 0 :: .gone 0 :: .gone 0 :: .gone 0 :: .gone 0 :: .gone 0 :: .gone 0 :: .gone 0 :: .gone 0 :: .gone 0 :: .gone 0 :: .gone 0 :: .gone 0 :: .gone 0 :: .gone 0 :: .gone 0 :: .gone 0 :: .gone 0 :: .gone 0 :: .gone 0 :: .gone 0 :: .gone 0 :: .gone 0 :: .gone 0 :: .gone 0 :: .gone 0 :: .gone 0 :: .gone 0 :: .gone 0 :: .gone 0 :: .gone 0 :: .gone 0 :: .gone 0 :: .gone 0 :: .gone 0 :: .gone 0 :: .gone 0 :: .gone 0 :: .gone 0 :: .gone 0 :: .gone 0 :: .gone 0 :: .gone 0 :: .gone 0 :: .gone 0 :: .gone 0 :: .gone 0 :: .gone 0 :: .gone 0 :: .gone 0 :: .gone 0 :: .gone 0 :: .gone 0 :: .gone 0 :: .gone 0 :: .gone 0 :: .gone 0 :: .gone 0 :: .gone 0 :: .gone 0 :: .gone 0 :: .gone 0 :: .gone 0 :: .gone 0 :: .gone 0 :: .gone 0 :: .gone 0 :: .gone 0 :: .gone 0 :: .gone 0 :: .gone 0 :: .gone 0 :: .gone 0 :: .gone 0 :: .gone 0 :: .gone 0 :: .gone 0 :: .gone 0 :: .gone 0 :: .gone 0 :: .gone 0 :: .gone 0 :: .gone 0 :: .gone 0 :: .gone 0 :: .gone 0 :: .gone 0 :: .gone 0 :: .gone 0 :: .gone 0 :: .gone 0 :: .gone 0 :: .gone 0 :: .gone 0 :: .gone 0 :: .gone 0 :: .gone 0 :: .gone 0 :: .gone 0 :: .gone 0 :: .gone 0 :: .gone 0 :: .gone 0 :: []), [none, none, none, none]⟩) (by kernel_rfl) ?_
      exact runV trivial trivial trivial
end
end P1
end Go.Vq

