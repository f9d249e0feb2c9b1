/- A machine of values and its tie to the model, and runs of it: part 13 of 15 (no law of Go is stated here). -/
import Derived.Test.YtmhpkajjomgbhaaF12
set_option linter.unusedVariables false
set_option linter.unusedSimpArgs false
set_option linter.unusedSectionVars false
namespace Go.Vq
namespace P1
open Go
set_option maxRecDepth 1000000
set_option maxHeartbeats 8000000
abbrev b26 : VCode := .seq (.region [⟨some 2, .ibox 0 1 (.tmp 0), none, 0⟩, ⟨some 3, .ibox 1 1 (.tmp 1), none, 0⟩, ⟨some 4, .assign (.val (.int .i64 0)), none, 0⟩] false) (.seq (.region [⟨some 5, .load false 1 (.tmp 2), none, 0⟩, ⟨some 6, .len (.slc 1) (.tmp 5), none, 1⟩, ⟨some 7, .makeFunc 34 [(.tmp 2), (.tmp 3)], none, 0⟩, ⟨some 8, .call false 33 2 [(.tmp 6), (.tmp 7)], none, 7⟩, ⟨some 4, .assign (.tmp 8), none, 15⟩] false) (.ret))
abbrev v26 : VFunc := { nparams := 2, ntmps := 9, nsites := 2, results := [.tmp 4], body := b26 }
abbrev b33 : VCode := .seq (.region [⟨some 4, .assign (.val (.int .i64 0)), none, 0⟩] false) (.seq (.region [⟨some 8, .move (.tmp 0), none, 0⟩, ⟨some 5, .assign (.val (.int .i64 0)), none, 0⟩, ⟨some 6, .assign (.tmp 8), none, 3⟩] false) (.seq (.block 0 (some [5]) (.loop (some [0, 1, 5, 6]) (.seq (.seq (.region [⟨some 9, .move (.tmp 5), none, 0⟩, ⟨some 10, .move (.tmp 6), none, 0⟩, ⟨some 11, .bin (.lss) (.tmp 9) (.tmp 10), none, 3⟩] false) (.cond (.tmp 11) (.skip) (.exit 0))) (.block 1 none (.seq (.region [⟨some 12, .move (.tmp 5), none, 0⟩, ⟨some 13, .move (.tmp 6), none, 0⟩, ⟨some 14, .bin (.add) (.tmp 12) (.tmp 13), none, 3⟩, ⟨some 15, .conv (.int (.u64)) (.tmp 14), none, 7⟩, ⟨some 16, .bin (.shr) (.tmp 15) (.val (.int .u64 1)), none, 15⟩, ⟨some 17, .conv (.int (.i64)) (.tmp 16), none, 31⟩, ⟨some 7, .assign (.tmp 17), none, 63⟩] false) (.seq (.region [⟨some 18, .move (.tmp 1), none, 0⟩, ⟨some 19, .move (.tmp 7), none, 0⟩, ⟨some 20, .callv false (.tmp 18) 0 [(.tmp 19)], none, 3⟩, ⟨some 21, .un (.not) (.tmp 20), none, 7⟩] false) (.cond (.tmp 21) (.region [⟨some 22, .move (.tmp 7), none, 0⟩, ⟨some 23, .bin (.add) (.tmp 22) (.val (.int .i64 1)), none, 1⟩, ⟨some 5, .assign (.tmp 23), none, 3⟩] false) (.region [⟨some 24, .move (.tmp 7), none, 0⟩, ⟨some 6, .assign (.tmp 24), none, 1⟩] false)))))))) (.seq (.region [⟨some 25, .move (.tmp 5), none, 0⟩, ⟨some 4, .assign (.tmp 25), none, 1⟩] false) (.ret))))
abbrev v33 : VFunc := { nparams := 2, ntmps := 26, nsites := 0, results := [.tmp 4], body := b33 }
abbrev b34 : VCode := .seq (.region [⟨some 4, .assign (.val (.bool false)), none, 0⟩] false) (.seq (.region [⟨some 5, .load false 1 (.tmp 1), none, 0⟩, ⟨some 6, .move (.tmp 0), none, 0⟩, ⟨some 7, .indexAddr none 1 (.tmp 5) (.tmp 6), none, 3⟩, ⟨some 8, .load false 1 (.tmp 7), none, 7⟩, ⟨some 9, .load false 1 (.tmp 2), none, 0⟩, ⟨some 10, .bin (.geq) (.tmp 8) (.tmp 9), none, 31⟩, ⟨some 4, .assign (.tmp 10), none, 63⟩] true) (.ret))
abbrev v34 : VFunc := { nparams := 3, ntmps := 11, nsites := 0, results := [.tmp 4], body := b34 }
section
variable (G : VProg)
theorem searchF (hG : G 34 = some (.code v34)) (l : List Int) (x : Int) (i : Nat) (hi : i < l.length) (hl : l.length < 2 ^ 44) :
    lim G 34 [.int .i64 i, .iptr [.isl 0 1 (iV l)], .iptr [.int .i64 x]] [] = some (.bool (decide (x ≤ l[i])), []) := by
  have hil : (i : Int) < (l.length : Int) := by omega
  have hg := iV_get l i hi
  obtain ⟨y, hy⟩ : ∃ y, y = l[i] := ⟨_, rfl⟩
  rw [← hy] at hg ⊢
  exact lim_fun hG (h := runV (And.intro hil (And.intro hg (iV_len l))) trivial trivial)
theorem idsIn_i : ∀ l : List Int, V.objIds.idsIn (iV l) = []
  | [] => rfl
  | _ :: l => by simp only [iV, List.map_cons, V.objIds.idsIn, V.objIds, List.nil_append]; exact idsIn_i l
def searchN (l : List Int) (x : Int) : Nat := (l.takeWhile (· < x)).length
theorem searchI (hG : G 26 = some (.code v26)) (l : List Int) (x : Int) (hl : l.length < 2 ^ 44)
    (hS : lim G 33 [.int .i64 l.length, .func 34 [.iptr [.isl 0 1 (iV l)], .iptr [.int .i64 x]]] [] = some (.int .i64 (searchN l x), [])) :
    lim G 26 [.isl 0 1 (iV l), .int .i64 x] [] = some (.int .i64 (searchN l x), []) := by
  have ho : (V.func 34 [.iptr [.isl 0 1 (iV l)], .iptr [.int .i64 x]]).objIds = [] := by simp [V.objIds, V.objIds.idsIn, idsIn_i]
  exact lim_fun hG (h := runV (And.intro ho (iV_len l)) trivial trivial)
def SSe (l : List Int) (x : Int) (a : Nat × Nat) : St := ⟨(.int .i64 l.length :: .func 34 [.iptr [.isl 0 1 (iV l)], .iptr [.int .i64 x]] :: .gone 0 :: .gone 0 :: .gone 0 :: .int .i64 a.1 :: .int .i64 a.2 :: .gone 0 :: .gone 0 :: .gone 0 :: .gone 0 :: .gone 0 :: .gone 0 :: .gone 0 :: .gone 0 :: .gone 0 :: .gone 0 :: .gone 0 :: .gone 0 :: .gone 0 :: .gone 0 :: .gone 0 :: .gone 0 :: .gone 0 :: .gone 0 :: .gone 0 :: []), []⟩
theorem searchN_eq (x : Int) : ∀ (l : List Int) (i : Nat), i ≤ l.length → (∀ k (h : k < l.length), k < i → l[k] < x) → (∀ h : i < l.length, x ≤ l[i]) → searchN l x = i
  | [], i, hi, _, _ => by simp at hi; subst hi; rfl
  | y :: l, 0, _, _, h2 => by
    have := h2 (by simp)
    simp only [List.getElem_cons_zero] at this
    unfold searchN
    rw [List.takeWhile_cons, if_neg (by simp; omega)]; rfl
  | y :: l, i + 1, hi, h1, h2 => by
    have h0 := h1 0 (by simp) (by omega)
    simp only [List.getElem_cons_zero] at h0
    simp only [List.length_cons] at hi
    have ih := searchN_eq x l i (by omega) (fun k h hk => by have := h1 (k + 1) (by simp; omega) (by omega); simpa using this) (fun h => by have := h2 (by simp; omega); simpa using this)
    unfold searchN at ih ⊢
    rw [List.takeWhile_cons, if_pos (by simp; omega), List.length_cons, ih]
theorem search (hG : G 33 = some (.code v33)) (l : List Int) (x : Int) (hl : l.length < 2 ^ 44) (hs : ∀ i j (hi : i < l.length) (hj : j < l.length), i ≤ j → l[i] ≤ l[j])
    (hF : ∀ (i : Nat) (hi : i < l.length), lim G 34 [.int .i64 i, .iptr [.isl 0 1 (iV l)], .iptr [.int .i64 x]] [] = some (.bool (decide (x ≤ l[i])), [])) :
    lim G 33 [.int .i64 l.length, .func 34 [.iptr [.isl 0 1 (iV l)], .iptr [.int .i64 x]]] [] = some (.int .i64 (searchN l x), []) := by
  have ho : (V.func 34 [.iptr [.isl 0 1 (iV l)], .iptr [.int .i64 x]]).objIds = [] := by simp [V.objIds, V.objIds.idsIn, idsIn_i]
  have ho2 : (V.iptr [.isl 0 1 (iV l)]).objIds = [] := rfl
  have ho3 : (V.iptr [.int .i64 x]).objIds = [] := rfl
  refine lim_fun hG (h := runV (iV_len l) trivial ?_)
  refine WL_loop (SSe l x) (fun a => a.1 ≤ a.2 ∧ a.2 ≤ l.length ∧ (∀ k (h : k < l.length), k < a.1 → l[k] < x) ∧ (∀ k (h : k < l.length), a.2 ≤ k → x ≤ l[k])) (fun a => a.2 - a.1) ?_ (0, l.length) _ ⟨Nat.zero_le _, Nat.le_refl _, fun k h hk => by omega, fun k h hk => by omega⟩ (by kernel_rfl)
  rintro ⟨i, j⟩ ⟨hij, hj, h1, h2⟩
  simp only at hij hj h1 h2
  by_cases hlt : i < j
  · have c1 : decide ((i : Int) < (j : Int)) = true := by simp; omega
    obtain ⟨h, hh⟩ : ∃ h, h = (i + j) / 2 := ⟨_, rfl⟩
    have e1 : IntKind.i64.wrap ((i : Int) + (j : Int)) = ((i + j : Nat) : Int) := by rw [wrapi64 _ (by omega) (by omega)]; omega
    have e2 : IntKind.u64.wrap ((i + j : Nat) : Int) = ((i + j : Nat) : Int) := by
      have e : IntKind.u64.wrap ((i + j : Nat) : Int) = (((i + j) % 18446744073709551616 : Nat) : Int) := by simp only [IntKind.wrap, IntKind.bits, IntKind.signed]; simp
      rw [e, Nat.mod_eq_of_lt (by omega)]
    have e3 : ((i + j : Nat) : Int).fdiv (2 ^ min 1 IntKind.u64.bits) = (h : Int) := by rw [hh, Int.fdiv_eq_ediv_of_nonneg _ (by decide)]; rfl
    have e4 : IntKind.i64.wrap (h : Int) = (h : Int) := wrapi64 _ (by omega) (by omega)
    have e5 := inc64 h (by omega)
    have hhl : h < l.length := by omega
    have t1 := hF h hhl
    obtain ⟨y, hy⟩ : ∃ y, y = l[h] := ⟨_, rfl⟩
    rw [← hy] at t1
    have F := And.intro c1 (And.intro e1 (And.intro e2 (And.intro e3 (And.intro e4 (And.intro e5 (And.intro ho (And.intro ho2 ho3)))))))
    obtain ⟨n, hn⟩ : ∃ n, n = i + j := ⟨_, rfl⟩
    clear hF
    unfold SSe
    cases b : decide (x ≤ y)
    · rw [b] at t1
      refine runV F trivial ?_
      have hb : y < x := by simp at b; exact b
      refine Qr_n (h + 1, j) (by kernel_rfl) ⟨⟨by simp only; omega, hj, fun k hk hkl => ?_, h2⟩, by simp only; omega⟩
      have := hs k h hk hhl (by simp only at hkl; omega)
      omega
    · rw [b] at t1
      refine runV F trivial ?_
      have hb : x ≤ y := by simpa using b
      refine Qr_n (i, h) (by kernel_rfl) ⟨⟨by simp only; omega, by simp only; omega, h1, fun k hk hkl => ?_⟩, by simp only; omega⟩
      have := hs h k hhl hk (by simp only at hkl; omega)
      omega
  · obtain rfl : i = j := by omega
    have c1 : decide ((i : Int) < (i : Int)) = false := by simp
    have hN := searchN_eq x l i hj (fun k h hk => h1 k h hk) (fun h => h2 i h (Nat.le_refl _))
    rw [hN]
    clear hF
    unfold SSe
    refine runV c1 trivial ?_
    refine Qr_x ?_
    refine Qb_x (σ1 := ⟨(.gone 0 :: .gone 0 :: .gone 0 :: .gone 0 :: .gone 0 :: .int .i64 i :: .gone 0 :: .gone 0 :: .gone 0 :: .gone 0 :: .gone 0 :: .gone 0 :: .gone 0 :: .gone 0 :: .gone 0 :: .gone 0 :: .gone 0 :: .gone 0 :: .gone 0 :: .gone 0 :: .gone 0 :: .gone 0 :: .gone 0 :: .gone 0 :: .gone 0 :: .gone 0 :: []), []⟩) (by kernel_rfl) ?_
    exact runV trivial trivial trivial
end
end P1
end Go.Vq
namespace Go.Vq
namespace P1
open Go
set_option maxRecDepth 1000000
set_option maxHeartbeats 8000000
abbrev b21 : VCode := .seq (.region [⟨some 4, .assign (.val (.bool false)), none, 0⟩] false) (.seq (.seq (.region [⟨some 7, .move (.tmp 0), none, 0⟩, ⟨some 8, .len (.slc 1) (.tmp 7), none, 1⟩, ⟨some 9, .move (.val (.int .i64 0)), none, 0⟩] false) (.block 0 (some []) (.loop (some [0, 1, 7, 8, 9]) (.seq (.region [⟨some 10, .bin (.lss) (.tmp 9) (.tmp 8), none, 0⟩] false) (.seq (.cond (.tmp 10) (.skip) (.exit 0)) (.seq (.block 1 none (.seq (.region [⟨some 11, .indexAddr none 1 (.tmp 7) (.tmp 9), none, 0⟩, ⟨some 12, .load false 1 (.tmp 11), none, 1⟩, ⟨some 6, .assign (.tmp 12), none, 3⟩] false) (.seq (.region [⟨some 13, .move (.tmp 6), none, 0⟩, ⟨some 14, .move (.tmp 1), none, 0⟩, ⟨some 15, .bin (.rem) (.tmp 14) (.val (.int .i64 96)), none, 2⟩, ⟨some 16, .eq false (.num) (.tmp 13) (.tmp 15), none, 7⟩] false) (.cond (.tmp 16) (.seq (.region [⟨some 4, .assign (.val (.bool true)), none, 0⟩] false) (.ret)) (.skip))))) (.region [⟨some 17, .bin (.add) (.tmp 9) (.val (.int .i64 1)), none, 0⟩, ⟨some 9, .move (.tmp 17), none, 1⟩] false))))))) (.seq (.region [⟨some 4, .assign (.val (.bool false)), none, 0⟩] false) (.ret)))
abbrev v21 : VFunc := { nparams := 2, ntmps := 18, nsites := 0, results := [.tmp 4], body := b21 }
abbrev b28 : VCode := .seq (.region [⟨some 4, .assign (.val (.int .i64 0)), none, 0⟩] false) (.seq (.region [⟨some 8, .move (.tmp 1), none, 0⟩, ⟨some 9, .call true 15 0 [(.tmp 8)], none, 1⟩, ⟨some 7, .move (.tmp 9), none, 3⟩, ⟨some 10, .extract (.tmp 7) 0, none, 7⟩, ⟨some 11, .extract (.tmp 7) 1, none, 7⟩, ⟨some 5, .assign (.tmp 10), none, 15⟩, ⟨some 6, .assign (.tmp 11), none, 63⟩] false) (.seq (.region [⟨some 12, .move (.tmp 5), none, 0⟩, ⟨some 13, .move (.tmp 0), none, 0⟩, ⟨some 14, .len (.slc 1) (.tmp 13), none, 2⟩, ⟨some 15, .bin (.mul) (.tmp 12) (.tmp 14), none, 7⟩, ⟨some 16, .move (.tmp 0), none, 0⟩, ⟨some 17, .move (.tmp 6), none, 0⟩, ⟨some 18, .bin (.add) (.tmp 17) (.val (.int .i64 1)), none, 32⟩, ⟨some 19, .call true 26 0 [(.tmp 16), (.tmp 18)], none, 112⟩, ⟨some 20, .bin (.add) (.tmp 15) (.tmp 19), none, 255⟩, ⟨some 4, .assign (.tmp 20), none, 511⟩] false) (.ret)))
abbrev v28 : VFunc := { nparams := 2, ntmps := 21, nsites := 0, results := [.tmp 4], body := b28 }
abbrev b19 : VCode := .seq (.region [⟨some 6, .assign (.val (.int .i64 0)), none, 0⟩, ⟨some 7, .assign (.val (.int .i64 0)), none, 1⟩] false) (.seq (.seq (.region [⟨some 8, .move (.tmp 0), none, 0⟩, ⟨some 9, .call true 25 0 [(.tmp 8)], none, 1⟩, ⟨some 10, .un (.not) (.tmp 9), none, 3⟩, ⟨some 11, .move (.tmp 10), none, 7⟩, ⟨some 12, .move (.tmp 1), some (11, false), 15⟩, ⟨some 13, .call true 17 0 [(.tmp 12)], some (11, false), 31⟩, ⟨some 14, .un (.not) (.tmp 13), some (11, false), 63⟩, ⟨some 15, .pick (.tmp 11) (.val (.bool true)) (.tmp 14), none, 127⟩, ⟨some 16, .move (.tmp 15), none, 255⟩, ⟨some 17, .move (.tmp 2), some (16, false), 511⟩, ⟨some 18, .call true 17 0 [(.tmp 17)], some (16, false), 1023⟩, ⟨some 19, .un (.not) (.tmp 18), some (16, false), 2047⟩, ⟨some 20, .pick (.tmp 16) (.val (.bool true)) (.tmp 19), none, 4095⟩, ⟨some 21, .move (.tmp 20), none, 8191⟩, ⟨some 22, .move (.tmp 1), some (21, false), 16383⟩, ⟨some 23, .move (.tmp 2), some (21, false), 16383⟩, ⟨some 24, .bin (.gtr) (.tmp 22) (.tmp 23), some (21, false), 65535⟩, ⟨some 25, .pick (.tmp 21) (.val (.bool true)) (.tmp 24), none, 131071⟩] false) (.cond (.tmp 25) (.seq (.region [⟨some 6, .assign (.val (.int .i64 0)), none, 0⟩, ⟨some 7, .assign (.val (.int .i64 31)), none, 1⟩] false) (.ret)) (.skip))) (.seq (.region [⟨some 26, .move (.tmp 0), none, 0⟩, ⟨some 27, .move (.tmp 2), none, 0⟩, ⟨some 28, .call true 28 0 [(.tmp 26), (.tmp 27)], none, 3⟩, ⟨some 29, .move (.tmp 0), none, 0⟩, ⟨some 30, .move (.tmp 1), none, 0⟩, ⟨some 31, .call true 28 0 [(.tmp 29), (.tmp 30)], none, 31⟩, ⟨some 32, .bin (.sub) (.tmp 28) (.tmp 31), none, 63⟩, ⟨some 6, .assign (.tmp 32), none, 127⟩, ⟨some 7, .assign (.val (.int .i64 0)), none, 255⟩] false) (.ret)))
abbrev v19 : VFunc := { nparams := 3, ntmps := 33, nsites := 0, results := [.tmp 6, .tmp 7], body := b19 }
def closesB (l : List Int) (t : Int) : Bool := l.any fun n => n == t % 96
def beforeN (l : List Int) (t : Int) : Int := t / 96 * (l.length : Int) + (searchN l (t % 96 + 1) : Nat)
def passedV (l : List Int) (a b : Int) : V := if fitsD l = true ∧ rightT a = true ∧ rightT b = true ∧ a ≤ b then .tup [.int .i64 (beforeN l b - beforeN l a), .int .i64 0] else .tup [.int .i64 0, .int .i64 31]
theorem fits_all : ∀ (l : List Int) (last : Int), fitsFrom last l = true → (∀ x ∈ l, last < x ∧ x < 96) ∧ l.Pairwise (· < ·)
  | [], _, _ => ⟨by simp, List.Pairwise.nil⟩
  | n :: l, last, h => by
    simp only [fitsFrom, Bool.and_eq_true, decide_eq_true_eq] at h
    obtain ⟨⟨h1, h2⟩, h3⟩ := h
    obtain ⟨i1, i2⟩ := fits_all l n h3
    refine ⟨fun x hx => ?_, List.Pairwise.cons (fun x hx => (i1 x hx).1) i2⟩
    rcases List.mem_cons.1 hx with rfl | hx
    · exact ⟨h1, h2⟩
    · have := i1 x hx
      exact ⟨by omega, this.2⟩
theorem fits_len : ∀ (l : List Int) (last : Int), -1 ≤ last → last ≤ 95 → fitsFrom last l = true → (l.length : Int) ≤ 95 - last
  | [], _, _, h, _ => by simp; omega
  | n :: l, last, h0, _, h => by
    simp only [fitsFrom, Bool.and_eq_true, decide_eq_true_eq] at h
    obtain ⟨⟨h1, h2⟩, h3⟩ := h
    have := fits_len l n (by omega) (by omega) h3
    simp only [List.length_cons]
    omega
structure Fit (l : List Int) : Prop where
  pos : 0 < l.length
  len : l.length ≤ 96
  rng : ∀ x ∈ l, 0 ≤ x ∧ x < 96
  pw : l.Pairwise (· < ·)
theorem fit_of {l : List Int} (h : fitsD l = true) : Fit l := by
  unfold fitsD at h
  simp only [Bool.and_eq_true, decide_eq_true_eq] at h
  obtain ⟨h1, h2⟩ := fits_all l (-1) h.1
  have := fits_len l (-1) (by omega) (by omega) h.1
  exact ⟨h.2, by omega, fun x hx => by have := h1 x hx; omega, h2⟩
theorem Fit.le {l : List Int} (h : Fit l) (i j) (hi : i < l.length) (hj : j < l.length) (hij : i ≤ j) : l[i] ≤ l[j] := by
  by_cases e : i = j
  · subst e; exact Int.le_refl _
  · exact Int.le_of_lt (List.pairwise_iff_getElem.1 h.pw i j hi hj (by omega))
theorem searchN_le (l : List Int) (x : Int) : searchN l x ≤ l.length := by unfold searchN; exact (List.takeWhile_prefix _).length_le
section
variable (G : VProg)
def SFt (l : List Int) (i : Nat) : St := ⟨(.isl 0 1 (iV l) :: .gone 0 :: .gone 0 :: .int .i64 (lastD l i) :: .gone 0 :: .gone 0 :: .isl 0 1 (iV l) :: .int .i64 l.length :: .int .i64 i :: .gone 0 :: .gone 0 :: .gone 0 :: .gone 0 :: .gone 0 :: .gone 0 :: .gone 0 :: .gone 0 :: .gone 0 :: .gone 0 :: .gone 0 :: .gone 0 :: .gone 0 :: .gone 0 :: .gone 0 :: []), []⟩
theorem rfits (hG : G 20 = some (.code v20)) (l : List Int) (hl : l.length < 2 ^ 44) : lim G 20 [.isl 0 1 (iV l)] [] = some (.bool (fitsD l), []) := by
  refine lim_fun hG (h := runV (iV_len l) trivial ?_)
  refine WL_loop (SFt l) (fun i => i ≤ l.length ∧ fitsFrom (lastD l i) (l.drop i) = fitsFrom (-1) l) (fun i => l.length - i) ?_ 0 _ ⟨Nat.zero_le _, rfl⟩ (by kernel_rfl)
  rintro i ⟨hi, hinv⟩
  by_cases hlt : i < l.length
  · have c1 : decide ((i : Int) < (l.length : Int)) = true := by simp; omega
    have i1 := inc64 i (by omega)
    have hil : (i : Int) < (l.length : Int) := by omega
    have hg := iV_get l i hlt
    rw [fits_step l i hlt] at hinv
    have hls := lastD_succ l i hlt
    obtain ⟨x, hx⟩ : ∃ x, x = l[i] := ⟨_, rfl⟩
    obtain ⟨y, hy⟩ : ∃ y, y = lastD l i := ⟨_, rfl⟩
    rw [← hx] at hg hinv hls
    rw [← hy] at hinv
    have F := And.intro c1 (And.intro i1 (And.intro hil (And.intro hg (iV_len l))))
    unfold SFt
    rw [← hy]
    cases d1 : decide (x ≤ y)
    case true =>
      have hf : fitsD l = false := by
        unfold fitsD
        rw [← hinv, show decide (y < x) = false by simp at d1 ⊢; omega]
        rfl
      rw [hf]
      refine runV (And.intro d1 F) trivial ?_
      exact Qr_r (Qb_r (Qs_r (Qe_r (by kernel_rfl))))
    case false =>
    cases d2 : decide (95 < x)
    case true =>
      have hf : fitsD l = false := by
        unfold fitsD
        rw [← hinv, show decide (x < 96) = false by simp at d2 ⊢; omega, Bool.and_false]
        rfl
      rw [hf]
      refine runV (And.intro d1 (And.intro d2 F)) trivial ?_
      exact Qr_r (Qb_r (Qs_r (Qe_r (by kernel_rfl))))
    case false =>
      refine runV (And.intro d1 (And.intro d2 F)) trivial ?_
      refine Qr_n (i + 1) (by simp only [hls]; kernel_rfl) ⟨⟨by omega, ?_⟩, by omega⟩
      rw [← hinv, show decide (y < x) = true by simp at d1 ⊢; omega, show decide (x < 96) = true by simp at d2 ⊢; omega]
      rfl
  · obtain rfl : i = l.length := by omega
    have c1 : decide ((l.length : Int) < (l.length : Int)) = false := by simp
    rw [List.drop_length] at hinv
    have hf : fitsD l = decide ((0 : Int) < (l.length : Int)) := by
      unfold fitsD
      rw [← hinv]
      simp [fitsFrom]
    rw [hf]
    unfold SFt
    refine runV c1 trivial ?_
    refine Qr_x ?_
    refine Qb_x (σ1 := ⟨(.isl 0 1 (iV l) :: .gone 0 :: .gone 0 :: .gone 0 :: .gone 0 :: .gone 0 :: .gone 0 :: .gone 0 :: .gone 0 :: .gone 0 :: .gone 0 :: .gone 0 :: .gone 0 :: .gone 0 :: .gone 0 :: .gone 0 :: .gone 0 :: .gone 0 :: .gone 0 :: .gone 0 :: .gone 0 :: .gone 0 :: .gone 0 :: .gone 0 :: []), []⟩) (by kernel_rfl) ?_
    exact runV (iV_len l) trivial trivial
def SCl (l : List Int) (t : Int) (i : Nat) : St := ⟨(.isl 0 1 (iV l) :: .int .i64 t :: .gone 0 :: .gone 0 :: .gone 0 :: .gone 0 :: .gone 0 :: .isl 0 1 (iV l) :: .int .i64 l.length :: .int .i64 i :: .gone 0 :: .gone 0 :: .gone 0 :: .gone 0 :: .gone 0 :: .gone 0 :: .gone 0 :: .gone 0 :: []), []⟩
theorem rcloses (hG : G 21 = some (.code v21)) (l : List Int) (hl : l.length < 2 ^ 44) (t : Int) (ht : 0 ≤ t) : lim G 21 [.isl 0 1 (iV l), .int .i64 t] [] = some (.bool (closesB l t), []) := by
  refine lim_fun hG (h := runV (iV_len l) trivial ?_)
  refine WL_loop (SCl l t) (fun i => i ≤ l.length ∧ (l.drop i).any (fun n => n == t % 96) = closesB l t) (fun i => l.length - i) ?_ 0 _ ⟨Nat.zero_le _, rfl⟩ (by kernel_rfl)
  rintro i ⟨hi, hinv⟩
  have e2 : t.tmod 96 = t % 96 := Int.tmod_eq_emod_of_nonneg ht
  by_cases hlt : i < l.length
  · have c1 : decide ((i : Int) < (l.length : Int)) = true := by simp; omega
    have i1 := inc64 i (by omega)
    have hil : (i : Int) < (l.length : Int) := by omega
    have hg := iV_get l i hlt
    rw [List.drop_eq_getElem_cons hlt, List.any_cons] at hinv
    obtain ⟨x, hx⟩ : ∃ x, x = l[i] := ⟨_, rfl⟩
    rw [← hx] at hg hinv
    have F := And.intro c1 (And.intro i1 (And.intro hil (And.intro hg (And.intro e2 (iV_len l)))))
    unfold SCl
    cases d1 : (x == t % 96)
    · refine runV (And.intro d1 F) trivial ?_
      exact Qr_n (i + 1) (by kernel_rfl) ⟨⟨by omega, by rw [← hinv, d1, Bool.false_or]⟩, by omega⟩
    · rw [← hinv, d1, Bool.true_or]
      refine runV (And.intro d1 F) trivial ?_
      exact Qr_r (Qb_r (Qs_r (Qe_r (by kernel_rfl))))
  · obtain rfl : i = l.length := by omega
    have c1 : decide ((l.length : Int) < (l.length : Int)) = false := by simp
    rw [List.drop_length, List.any_nil] at hinv
    rw [← hinv]
    unfold SCl
    refine runV c1 trivial ?_
    refine Qr_x ?_
    refine Qb_x (σ1 := ⟨(.gone 0 :: .gone 0 :: .gone 0 :: .gone 0 :: .gone 0 :: .gone 0 :: .gone 0 :: .gone 0 :: .gone 0 :: .gone 0 :: .gone 0 :: .gone 0 :: .gone 0 :: .gone 0 :: .gone 0 :: .gone 0 :: .gone 0 :: .gone 0 :: []), []⟩) (by kernel_rfl) ?_
    exact runV trivial trivial trivial
abbrev HRight (G : VProg) : Prop := ∀ t : Int, lim G 17 [.int .i64 t] [] = some (.bool (rightT t), [])
abbrev HOf (G : VProg) : Prop := ∀ t : Int, lim G 15 [.int .i64 t] [] = some (.tup [.int .i64 (ofT t).1, .int .i64 (ofT t).2], [])
abbrev HSearch (G : VProg) : Prop := ∀ (l : List Int) (x : Int) (_ : Fit l), lim G 26 [.isl 0 1 (iV l), .int .i64 x] [] = some (.int .i64 (searchN l x), [])
abbrev HDoors (G : VProg) : Prop := ∀ (l : List Int) (_ : l.length < 2 ^ 44), lim G 25 [.isl 0 1 (iV l)] [] = some (.bool (fitsD l), [])
theorem dbefore (hG : G 28 = some (.code v28)) (hO : HOf G) (hS : HSearch G) (l : List Int) (h : Fit l) (t : Int) (ht : rightT t = true) : lim G 28 [.isl 0 1 (iV l), .int .i64 t] [] = some (.int .i64 (beforeN l t), []) := by
  have t1 := hO t
  have hb : 0 ≤ t ∧ t ≤ 1099511627776 := by simpa [rightT] using ht
  rw [show ofT t = (t / 96, t % 96) by unfold ofT; rw [if_pos ht]] at t1
  have t2 := hS l (t % 96 + 1) h
  have e1 : IntKind.i64.wrap (t % 96 + 1) = t % 96 + 1 := wrapi64 _ (by omega) (by omega)
  have hln := h.len
  have hN := searchN_le l (t % 96 + 1)
  unfold beforeN
  obtain ⟨d, hd⟩ : ∃ d, d = t / 96 := ⟨_, rfl⟩
  obtain ⟨m, hm⟩ : ∃ m, m = t % 96 + 1 := ⟨_, rfl⟩
  obtain ⟨N, hNe⟩ : ∃ N, N = searchN l (t % 96 + 1) := ⟨_, rfl⟩
  rw [← hNe] at t2 hN ⊢
  rw [← hm] at t2 e1
  rw [← hd] at t1 ⊢
  have hd2 : 0 ≤ d ∧ d ≤ 11453246123 := by omega
  have hp : 0 ≤ d * (l.length : Int) ∧ d * (l.length : Int) ≤ 11453246123 * 96 := ⟨Int.mul_nonneg hd2.1 (by omega), Int.mul_le_mul hd2.2 (by omega) (by omega) (by omega)⟩
  have e2 : IntKind.i64.wrap (d * (l.length : Int)) = d * (l.length : Int) := wrapi64 _ (by omega) (by omega)
  have e3 : IntKind.i64.wrap (d * (l.length : Int) + (N : Int)) = d * (l.length : Int) + (N : Int) := wrapi64 _ (by omega) (by omega)
  have e1' : IntKind.i64.wrap (t % 96 + 1) = m := by rw [← hm]; exact e1
  exact lim_fun hG (h := runV (And.intro e1' (And.intro e2 (And.intro e3 (iV_len l)))) trivial trivial)
end
end P1
end Go.Vq
namespace Go.Vq
namespace P1
open Go
set_option maxRecDepth 1000000
set_option maxHeartbeats 8000000
abbrev b13 : VCode := .seq (.region [⟨some 4, .assign (.val (.int .i64 0)), none, 0⟩, ⟨some 5, .assign (.val (.int .i64 0)), none, 1⟩] false) (.seq (.seq (.region [⟨some 9, .move (.tmp 0), none, 0⟩, ⟨some 10, .call true 25 0 [(.tmp 9)], none, 1⟩, ⟨some 11, .un (.not) (.tmp 10), none, 3⟩, ⟨some 12, .move (.tmp 11), none, 7⟩, ⟨some 13, .move (.tmp 1), some (12, false), 15⟩, ⟨some 14, .call true 17 0 [(.tmp 13)], some (12, false), 31⟩, ⟨some 15, .un (.not) (.tmp 14), some (12, false), 63⟩, ⟨some 16, .pick (.tmp 12) (.val (.bool true)) (.tmp 15), none, 127⟩] false) (.cond (.tmp 16) (.seq (.region [⟨some 4, .assign (.val (.int .i64 0)), none, 0⟩, ⟨some 5, .assign (.val (.int .i64 31)), none, 1⟩] false) (.ret)) (.skip))) (.seq (.region [⟨some 18, .move (.tmp 1), none, 0⟩, ⟨some 19, .call true 15 0 [(.tmp 18)], none, 1⟩, ⟨some 17, .move (.tmp 19), none, 3⟩, ⟨some 20, .extract (.tmp 17) 0, none, 7⟩, ⟨some 21, .extract (.tmp 17) 1, none, 7⟩, ⟨some 6, .assign (.tmp 20), none, 15⟩, ⟨some 7, .assign (.tmp 21), none, 63⟩] false) (.seq (.region [⟨some 22, .move (.tmp 0), none, 0⟩, ⟨some 23, .move (.tmp 7), none, 0⟩, ⟨some 24, .bin (.add) (.tmp 23) (.val (.int .i64 1)), none, 2⟩, ⟨some 25, .call true 26 0 [(.tmp 22), (.tmp 24)], none, 7⟩, ⟨some 8, .assign (.tmp 25), none, 15⟩] false) (.seq (.seq (.region [⟨some 26, .move (.tmp 8), none, 0⟩, ⟨some 27, .move (.tmp 0), none, 0⟩, ⟨some 28, .len (.slc 1) (.tmp 27), none, 2⟩, ⟨some 29, .eq false (.num) (.tmp 26) (.tmp 28), none, 7⟩] false) (.cond (.tmp 29) (.region [⟨some 30, .move (.tmp 6), none, 0⟩, ⟨some 31, .bin (.add) (.tmp 30) (.val (.int .i64 1)), none, 1⟩, ⟨some 6, .assign (.tmp 31), none, 3⟩, ⟨some 8, .assign (.val (.int .i64 0)), none, 7⟩] false) (.skip))) (.seq (.region [⟨some 32, .move (.tmp 6), none, 0⟩, ⟨some 33, .bin (.mul) (.tmp 32) (.val (.int .i64 96)), none, 1⟩, ⟨some 34, .move (.tmp 0), none, 0⟩, ⟨some 35, .move (.tmp 8), none, 0⟩, ⟨some 36, .indexAddr none 1 (.tmp 34) (.tmp 35), none, 12⟩, ⟨some 37, .load false 1 (.tmp 36), none, 28⟩, ⟨some 38, .bin (.add) (.tmp 33) (.tmp 37), none, 63⟩, ⟨some 39, .call true 27 0 [(.tmp 38)], none, 127⟩, ⟨some 40, .extract (.tmp 39) 0, none, 255⟩, ⟨some 41, .extract (.tmp 39) 1, none, 255⟩, ⟨some 4, .assign (.tmp 40), none, 1023⟩, ⟨some 5, .assign (.tmp 41), none, 2047⟩] false) (.ret))))))
abbrev v13 : VFunc := { nparams := 2, ntmps := 42, nsites := 0, results := [.tmp 4, .tmp 5], body := b13 }
abbrev b14 : VCode := .seq (.region [⟨some 4, .assign (.val (.int .i64 0)), none, 0⟩, ⟨some 5, .assign (.val (.int .i64 0)), none, 1⟩] false) (.seq (.seq (.region [⟨some 7, .move (.tmp 0), none, 0⟩, ⟨some 8, .call true 20 0 [(.tmp 7)], none, 1⟩, ⟨some 9, .un (.not) (.tmp 8), none, 3⟩, ⟨some 10, .move (.tmp 9), none, 7⟩, ⟨some 11, .move (.tmp 1), some (10, false), 15⟩, ⟨some 12, .call true 18 0 [(.tmp 11)], some (10, false), 31⟩, ⟨some 13, .un (.not) (.tmp 12), some (10, false), 63⟩, ⟨some 14, .pick (.tmp 10) (.val (.bool true)) (.tmp 13), none, 127⟩] false) (.cond (.tmp 14) (.seq (.region [⟨some 4, .assign (.val (.int .i64 0)), none, 0⟩, ⟨some 5, .assign (.val (.int .i64 31)), none, 1⟩] false) (.ret)) (.skip))) (.seq (.seq (.region [⟨some 15, .move (.tmp 1), none, 0⟩, ⟨some 16, .bin (.add) (.tmp 15) (.val (.int .i64 1)), none, 1⟩, ⟨some 6, .assign (.tmp 16), none, 3⟩] false) (.block 0 (some []) (.loop (some [0, 6]) (.seq (.seq (.region [⟨some 17, .move (.tmp 6), none, 0⟩, ⟨some 18, .bin (.leq) (.tmp 17) (.val (.int .i64 1099511627776)), none, 1⟩] false) (.cond (.tmp 18) (.skip) (.exit 0))) (.seq (.block 1 none (.seq (.region [⟨some 21, .move (.tmp 0), none, 0⟩, ⟨some 22, .move (.tmp 6), none, 0⟩, ⟨some 23, .call true 21 0 [(.tmp 21), (.tmp 22)], none, 3⟩] false) (.cond (.tmp 23) (.seq (.region [⟨some 24, .move (.tmp 6), none, 0⟩, ⟨some 4, .assign (.tmp 24), none, 1⟩, ⟨some 5, .assign (.val (.int .i64 0)), none, 3⟩] false) (.ret)) (.skip)))) (.region [⟨some 19, .move (.tmp 6), none, 0⟩, ⟨some 20, .bin (.add) (.tmp 19) (.val (.int .i64 1)), none, 1⟩, ⟨some 6, .assign (.tmp 20), none, 3⟩] false)))))) (.seq (.region [⟨some 4, .assign (.val (.int .i64 0)), none, 0⟩, ⟨some 5, .assign (.val (.int .i64 31)), none, 1⟩] false) (.ret))))
abbrev v14 : VFunc := { nparams := 2, ntmps := 25, nsites := 0, results := [.tmp 4, .tmp 5], body := b14 }
theorem searchN_lt (x : Int) : ∀ (l : List Int) (k : Nat) (h : k < l.length), k < searchN l x → l[k] < x
  | [], k, h, _ => by simp at h
  | y :: l, k, h, hk => by
    unfold searchN at hk
    rw [List.takeWhile_cons] at hk
    by_cases hy : y < x
    · rw [if_pos (by simpa using hy), List.length_cons] at hk
      cases k with
      | zero => simpa using hy
      | succ k => simpa using searchN_lt x l k (by simpa using h) (by unfold searchN; omega)
    · rw [if_neg (by simpa using hy)] at hk
      simp at hk
theorem searchN_at (x : Int) : ∀ (l : List Int) (h : searchN l x < l.length), x ≤ l[searchN l x]
  | [], h => by simp at h
  | y :: l, h => by
    by_cases hy : y < x
    · have e : searchN (y :: l) x = searchN l x + 1 := by unfold searchN; rw [List.takeWhile_cons, if_pos (by simpa using hy), List.length_cons]
      have := searchN_at x l (by rw [e] at h; simpa using h)
      simp only [e, List.getElem_cons_succ]
      exact this
    · have e : searchN (y :: l) x = 0 := by unfold searchN; rw [List.takeWhile_cons, if_neg (by simpa using hy)]; rfl
      simp only [e, List.getElem_cons_zero]
      omega
def nextN (l : List Int) (t : Int) : Int := if searchN l (t % 96 + 1) < l.length then t / 96 * 96 + l.getD (searchN l (t % 96 + 1)) 0 else (t / 96 + 1) * 96 + l.getD 0 0
theorem getD_at {l : List Int} {k : Nat} (h : k < l.length) : l.getD k 0 = l[k] := by rw [List.getD_eq_getElem?_getD, List.getElem?_eq_getElem h]; rfl
theorem closes_iff {l : List Int} {t : Int} : closesB l t = true ↔ ∃ k, ∃ h : k < l.length, l[k] = t % 96 := by
  unfold closesB
  rw [List.any_eq_true]
  constructor
  · rintro ⟨x, hx, he⟩
    obtain ⟨k, h, rfl⟩ := List.getElem_of_mem hx
    exact ⟨k, h, by simpa using he⟩
  · rintro ⟨k, h, he⟩
    exact ⟨l[k], List.getElem_mem h, by simpa using he⟩
theorem next_ok {l : List Int} (h : Fit l) {t : Int} (ht : 0 ≤ t) : t < nextN l t ∧ nextN l t ≤ t + 96 ∧ closesB l (nextN l t) = true ∧ ∀ n, t < n → n < nextN l t → closesB l n = false := by
  have hp := h.pos
  have r0 := h.rng _ (List.getElem_mem hp)
  unfold nextN
  by_cases hN : searchN l (t % 96 + 1) < l.length
  · have hA := searchN_at _ l hN
    have hr := h.rng _ (List.getElem_mem hN)
    rw [if_pos hN, getD_at hN]
    have hlt := fun k (hk : k < l.length) => searchN_lt (t % 96 + 1) l k hk
    have hle := fun k (hk : k < l.length) => h.le (searchN l (t % 96 + 1)) k hN hk
    refine ⟨by omega, by omega, closes_iff.2 ⟨_, hN, by omega⟩, fun n h1 h2 => ?_⟩
    cases hc : closesB l n
    · rfl
    · obtain ⟨k, hk, e⟩ := closes_iff.1 hc
      by_cases hkN : k < searchN l (t % 96 + 1)
      · have := hlt k hk hkN
        omega
      · have := hle k hk (by omega)
        omega
  · rw [if_neg hN, getD_at hp]
    have hlt := fun k (hk : k < l.length) => searchN_lt (t % 96 + 1) l k hk (by omega)
    have hle := fun k (hk : k < l.length) => h.le 0 k hp hk (by omega)
    have h00 := hlt 0 hp
    refine ⟨by omega, by omega, closes_iff.2 ⟨0, hp, by omega⟩, fun n h1 h2 => ?_⟩
    cases hc : closesB l n
    · rfl
    · obtain ⟨k, hk, e⟩ := closes_iff.1 hc
      have a := hlt k hk
      have b := hle k hk
      omega
def toldV (v : Int) : V := .tup [.int .i64 (if rightT v then v else 0), .int .i64 (if rightT v then 0 else 31)]
def nextV (l : List Int) (t : Int) : V := if fitsD l = true ∧ rightT t = true then toldV (nextN l t) else .tup [.int .i64 0, .int .i64 31]
def endV (t : Int) : V := if rightT t = true then toldV (t - t % 96 + 96) else .tup [.int .i64 0, .int .i64 31]
abbrev HTold (G : VProg) : Prop := ∀ t : Int, lim G 27 [.int .i64 t] [] = some (.tup [.int .i64 (if rightT t then t else 0), .int .i64 (if rightT t then 0 else 31)], [])
section
variable (G : VProg)
theorem right_bd {t : Int} (h : rightT t = true) : 0 ≤ t ∧ t ≤ 1099511627776 := by simpa [rightT] using h
theorem dend (hG : G 16 = some (.code v16)) (hR : HRight G) (hT : HTold G) (t : Int) : lim G 16 [.int .i64 t] [] = some (endV t, []) := by
  have t1 := hR t
  unfold endV
  cases hr : rightT t
  · rw [hr] at t1
    rw [if_neg (by simp)]
    exact lim_fun hG (h := runV trivial trivial trivial)
  · rw [hr] at t1
    rw [if_pos rfl]
    have hb := right_bd hr
    have t2 := hT (t - t % 96 + 96)
    have e1 : t.tmod 96 = t % 96 := Int.tmod_eq_emod_of_nonneg hb.1
    have e2 : IntKind.i64.wrap (t - t % 96) = t - t % 96 := wrapi64 _ (by omega) (by omega)
    have e3 : IntKind.i64.wrap (t - t % 96 + 96) = t - t % 96 + 96 := wrapi64 _ (by omega) (by omega)
    unfold toldV
    obtain ⟨v1, hv1⟩ : ∃ v, v = (if rightT (t - t % 96 + 96) = true then t - t % 96 + 96 else 0) := ⟨_, rfl⟩
    obtain ⟨v2, hv2⟩ : ∃ v, v = (if rightT (t - t % 96 + 96) = true then (0 : Int) else 31) := ⟨_, rfl⟩
    rw [← hv1, ← hv2] at t2 ⊢
    clear hv1 hv2
    exact lim_fun hG (h := runV (And.intro e1 (And.intro e2 e3)) trivial trivial)
theorem dnext (hG : G 13 = some (.code v13)) (hR : HRight G) (hT : HTold G) (hO : HOf G) (hS : HSearch G) (hD : HDoors G) (l : List Int) (hl : l.length < 2 ^ 44) (t : Int) : lim G 13 [.isl 0 1 (iV l), .int .i64 t] [] = some (nextV l t, []) := by
  have t1 := hR t
  have t2 := hD l hl
  unfold nextV
  cases hf : fitsD l
  · rw [hf] at t2
    rw [if_neg (by simp)]
    exact lim_fun hG (h := runV trivial trivial trivial)
  cases hr : rightT t
  · rw [hr] at t1
    rw [hf] at t2
    rw [if_neg (by simp)]
    exact lim_fun hG (h := runV trivial trivial trivial)
  rw [hr] at t1
  rw [hf] at t2
  rw [if_pos ⟨rfl, rfl⟩]
  have hF := fit_of hf
  have hb := right_bd hr
  have t3 := hO t
  rw [show ofT t = (t / 96, t % 96) by unfold ofT; rw [if_pos hr]] at t3
  have t4 := hS l (t % 96 + 1) hF
  have t5 := hT (nextN l t)
  have hok := next_ok hF hb.1
  have hN := searchN_le l (t % 96 + 1)
  have hp := hF.pos
  have e1 : IntKind.i64.wrap (t % 96 + 1) = t % 96 + 1 := wrapi64 _ (by omega) (by omega)
  have r0 := hF.rng _ (List.getElem_mem hp)
  unfold toldV
  have hln := hF.len
  by_cases hc : searchN l (t % 96 + 1) < l.length
  · have en : nextN l t = t / 96 * 96 + l[searchN l (t % 96 + 1)] := by unfold nextN; rw [if_pos hc, getD_at hc]
    have r1 := hF.rng _ (List.getElem_mem hc)
    have hg := iV_get l _ hc
    obtain ⟨y, hy⟩ : ∃ y, y = l[searchN l (t % 96 + 1)] := ⟨_, rfl⟩
    rw [← hy] at en hg r1
    obtain ⟨N, hNe⟩ : ∃ N, N = searchN l (t % 96 + 1) := ⟨_, rfl⟩
    rw [← hNe] at t4 hg hc
    obtain ⟨d, hd⟩ : ∃ d, d = t / 96 := ⟨_, rfl⟩
    obtain ⟨m, hm⟩ : ∃ m, m = t % 96 + 1 := ⟨_, rfl⟩
    rw [← hm] at t4
    rw [← hd] at t3 en
    have e1' : IntKind.i64.wrap (t % 96 + 1) = m := by rw [hm]; exact e1
    have e2 : IntKind.i64.wrap (d * 96) = d * 96 := wrapi64 _ (by omega) (by omega)
    have e3 : IntKind.i64.wrap (d * 96 + y) = nextN l t := by rw [en]; exact wrapi64 _ (by omega) (by omega)
    have c1 : ((N : Int) == (l.length : Int)) = false := by simp; omega
    have hil : (N : Int) < (l.length : Int) := by omega
    obtain ⟨v, hv⟩ : ∃ v, v = nextN l t := ⟨_, rfl⟩
    rw [← hv] at t5 e3 ⊢
    obtain ⟨v1, hv1⟩ : ∃ w, w = (if rightT v = true then v else 0) := ⟨_, rfl⟩
    obtain ⟨v2, hv2⟩ : ∃ w, w = (if rightT v = true then (0 : Int) else 31) := ⟨_, rfl⟩
    rw [← hv1, ← hv2] at t5 ⊢
    clear hv1 hv2 hv hok hNe hy hd hm r0 r1 hR hT hO hS hD en e1 hF
    exact lim_fun hG (h := runV (And.intro e1' (And.intro e2 (And.intro e3 (And.intro c1 (And.intro hil (And.intro hg (iV_len l))))))) trivial trivial)
  · have en : nextN l t = (t / (96 : Int) + (1 : Int)) * (96 : Int) + (l[0]'hp : Int) := by unfold nextN; rw [if_neg hc, getD_at hp]
    have hg := iV_get l 0 hp
    obtain ⟨y, hy⟩ : ∃ y, y = l[0] := ⟨_, rfl⟩
    rw [← hy] at en hg r0
    have hNe : searchN l (t % 96 + 1) = l.length := by omega
    rw [hNe] at t4
    obtain ⟨d, hd⟩ : ∃ d, d = t / 96 := ⟨_, rfl⟩
    obtain ⟨m, hm⟩ : ∃ m, m = t % 96 + 1 := ⟨_, rfl⟩
    rw [← hm] at t4
    rw [← hd] at t3 en
    have e1' : IntKind.i64.wrap (t % 96 + 1) = m := by rw [hm]; exact e1
    have e2 : IntKind.i64.wrap (d + 1) = d + 1 := wrapi64 _ (by omega) (by omega)
    have e2' : IntKind.i64.wrap ((d + 1) * 96) = (d + 1) * 96 := wrapi64 _ (by omega) (by omega)
    have e3 : IntKind.i64.wrap ((d + 1) * 96 + y) = nextN l t := by rw [en]; exact wrapi64 _ (by omega) (by omega)
    have c1 : ((l.length : Int) == (l.length : Int)) = true := by simp
    have hil : (0 : Int) < (l.length : Int) := by omega
    obtain ⟨v, hv⟩ : ∃ v, v = nextN l t := ⟨_, rfl⟩
    rw [← hv] at t5 e3 ⊢
    obtain ⟨v1, hv1⟩ : ∃ w, w = (if rightT v = true then v else 0) := ⟨_, rfl⟩
    obtain ⟨v2, hv2⟩ : ∃ w, w = (if rightT v = true then (0 : Int) else 31) := ⟨_, rfl⟩
    rw [← hv1, ← hv2] at t5 ⊢
    clear hv1 hv2 hv hok hNe hy hd hm r0 hR hT hO hS hD en e1 hF
    exact lim_fun hG (h := runV (And.intro e1' (And.intro e2 (And.intro e2' (And.intro e3 (And.intro c1 (And.intro hil (And.intro hg (iV_len l)))))))) trivial trivial)
end
end P1
end Go.Vq
namespace Go.Vq
namespace P1
open Go
set_option maxRecDepth 1000000
set_option maxHeartbeats 8000000
abbrev b4 : VCode := .seq (.region [⟨some 4, .assign (.val (.bool false)), none, 0⟩] false) (.seq (.seq (.region [⟨some 14, .call true 9 0 [], none, 0⟩, ⟨some 15, .un (.not) (.tmp 14), none, 1⟩] false) (.cond (.tmp 15) (.seq (.region [⟨some 4, .assign (.val (.bool false)), none, 0⟩] false) (.ret)) (.skip))) (.seq (.seq (.region [⟨some 16, .move (.tmp 0), none, 0⟩, ⟨some 17, .len (.slc 1) (.tmp 16), none, 1⟩, ⟨some 18, .bin (.gtr) (.tmp 17) (.val (.int .i64 200)), none, 3⟩] false) (.cond (.tmp 18) (.seq (.region [⟨some 4, .assign (.val (.bool true)), none, 0⟩] false) (.ret)) (.skip))) (.seq (.region [⟨some 20, .move (.tmp 0), none, 0⟩, ⟨some 21, .move (.tmp 1), none, 0⟩, ⟨some 22, .call true 13 0 [(.tmp 20), (.tmp 21)], none, 3⟩, ⟨some 19, .move (.tmp 22), none, 7⟩, ⟨some 23, .extract (.tmp 19) 0, none, 15⟩, ⟨some 24, .extract (.tmp 19) 1, none, 15⟩, ⟨some 5, .assign (.tmp 23), none, 31⟩, ⟨some 6, .assign (.tmp 24), none, 127⟩] false) (.seq (.region [⟨some 26, .move (.tmp 0), none, 0⟩, ⟨some 27, .move (.tmp 1), none, 0⟩, ⟨some 28, .call true 14 0 [(.tmp 26), (.tmp 27)], none, 3⟩, ⟨some 25, .move (.tmp 28), none, 7⟩, ⟨some 29, .extract (.tmp 25) 0, none, 15⟩, ⟨some 30, .extract (.tmp 25) 1, none, 15⟩, ⟨some 7, .assign (.tmp 29), none, 31⟩, ⟨some 8, .assign (.tmp 30), none, 127⟩] false) (.seq (.region [⟨some 32, .move (.tmp 1), none, 0⟩, ⟨some 33, .call true 15 0 [(.tmp 32)], none, 1⟩, ⟨some 31, .move (.tmp 33), none, 3⟩, ⟨some 34, .extract (.tmp 31) 0, none, 7⟩, ⟨some 35, .extract (.tmp 31) 1, none, 7⟩, ⟨some 9, .assign (.tmp 34), none, 15⟩, ⟨some 10, .assign (.tmp 35), none, 63⟩] false) (.seq (.region [⟨some 37, .move (.tmp 1), none, 0⟩, ⟨some 38, .call true 16 0 [(.tmp 37)], none, 1⟩, ⟨some 36, .move (.tmp 38), none, 3⟩, ⟨some 39, .extract (.tmp 36) 0, none, 7⟩, ⟨some 40, .extract (.tmp 36) 1, none, 7⟩, ⟨some 11, .assign (.tmp 39), none, 15⟩, ⟨some 12, .assign (.tmp 40), none, 63⟩] false) (.seq (.seq (.region [⟨some 41, .move (.tmp 5), none, 0⟩, ⟨some 42, .move (.tmp 7), none, 0⟩, ⟨some 43, .eq true (.num) (.tmp 41) (.tmp 42), none, 3⟩, ⟨some 44, .move (.tmp 43), none, 7⟩, ⟨some 45, .move (.tmp 6), some (44, false), 15⟩, ⟨some 46, .move (.tmp 8), some (44, false), 15⟩, ⟨some 47, .eq true (.num) (.tmp 45) (.tmp 46), some (44, false), 63⟩, ⟨some 48, .pick (.tmp 44) (.val (.bool true)) (.tmp 47), none, 127⟩, ⟨some 49, .move (.tmp 48), none, 255⟩, ⟨some 50, .move (.tmp 1), some (49, false), 511⟩, ⟨some 51, .call true 17 0 [(.tmp 50)], some (49, false), 1023⟩, ⟨some 52, .move (.tmp 1), some (49, false), 511⟩, ⟨some 53, .call true 18 0 [(.tmp 52)], some (49, false), 4095⟩, ⟨some 54, .eq true (.bool) (.tmp 51) (.tmp 53), some (49, false), 8191⟩, ⟨some 55, .pick (.tmp 49) (.val (.bool true)) (.tmp 54), none, 16383⟩] false) (.cond (.tmp 55) (.seq (.region [⟨some 4, .assign (.val (.bool false)), none, 0⟩] false) (.ret)) (.skip))) (.seq (.seq (.region [⟨some 56, .move (.tmp 1), none, 0⟩, ⟨some 57, .call true 18 0 [(.tmp 56)], none, 1⟩, ⟨some 58, .un (.not) (.tmp 57), none, 3⟩] false) (.cond (.tmp 58) (.seq (.region [⟨some 59, .move (.tmp 9), none, 0⟩, ⟨some 60, .eq false (.num) (.tmp 59) (.val (.int .i64 0)), none, 1⟩, ⟨some 61, .move (.tmp 60), none, 3⟩, ⟨some 62, .move (.tmp 10), some (61, true), 7⟩, ⟨some 63, .eq false (.num) (.tmp 62) (.val (.int .i64 0)), some (61, true), 15⟩, ⟨some 64, .pick (.tmp 61) (.tmp 63) (.val (.bool false)), none, 31⟩, ⟨some 65, .move (.tmp 64), none, 63⟩, ⟨some 66, .move (.tmp 11), some (65, true), 127⟩, ⟨some 67, .eq false (.num) (.tmp 66) (.val (.int .i64 0)), some (65, true), 255⟩, ⟨some 68, .pick (.tmp 65) (.tmp 67) (.val (.bool false)), none, 511⟩, ⟨some 69, .move (.tmp 68), none, 1023⟩, ⟨some 70, .move (.tmp 12), some (69, true), 2047⟩, ⟨some 71, .eq false (.num) (.tmp 70) (.val (.int .i64 31)), some (69, true), 4095⟩, ⟨some 72, .pick (.tmp 69) (.tmp 71) (.val (.bool false)), none, 8191⟩, ⟨some 4, .assign (.tmp 72), none, 16383⟩] false) (.ret)) (.skip))) (.seq (.region [⟨some 73, .move (.tmp 1), none, 0⟩, ⟨some 74, .bin (.quo) (.tmp 73) (.val (.int .i64 96)), none, 1⟩, ⟨some 75, .bin (.add) (.tmp 74) (.val (.int .i64 1)), none, 3⟩, ⟨some 76, .bin (.mul) (.val (.int .i64 96)) (.tmp 75), none, 7⟩, ⟨some 13, .assign (.tmp 76), none, 15⟩] false) (.seq (.seq (.region [⟨some 77, .move (.tmp 13), none, 0⟩, ⟨some 78, .bin (.gtr) (.tmp 77) (.val (.int .i64 1099511627776)), none, 1⟩] false) (.cond (.tmp 78) (.seq (.region [⟨some 79, .move (.tmp 11), none, 0⟩, ⟨some 80, .eq false (.num) (.tmp 79) (.val (.int .i64 0)), none, 1⟩, ⟨some 81, .move (.tmp 80), none, 3⟩, ⟨some 82, .move (.tmp 12), some (81, true), 7⟩, ⟨some 83, .eq false (.num) (.tmp 82) (.val (.int .i64 31)), some (81, true), 15⟩, ⟨some 84, .pick (.tmp 81) (.tmp 83) (.val (.bool false)), none, 31⟩, ⟨some 4, .assign (.tmp 84), none, 63⟩] false) (.ret)) (.skip))) (.seq (.region [⟨some 85, .move (.tmp 9), none, 0⟩, ⟨some 86, .move (.tmp 1), none, 0⟩, ⟨some 87, .bin (.quo) (.tmp 86) (.val (.int .i64 96)), none, 2⟩, ⟨some 88, .eq false (.num) (.tmp 85) (.tmp 87), none, 7⟩, ⟨some 89, .move (.tmp 88), none, 15⟩, ⟨some 90, .move (.tmp 10), some (89, true), 31⟩, ⟨some 91, .move (.tmp 1), some (89, true), 31⟩, ⟨some 92, .bin (.rem) (.tmp 91) (.val (.int .i64 96)), some (89, true), 95⟩, ⟨some 93, .eq false (.num) (.tmp 90) (.tmp 92), some (89, true), 255⟩, ⟨some 94, .pick (.tmp 89) (.tmp 93) (.val (.bool false)), none, 511⟩, ⟨some 95, .move (.tmp 94), none, 1023⟩, ⟨some 96, .move (.tmp 12), some (95, true), 2047⟩, ⟨some 97, .eq false (.num) (.tmp 96) (.val (.int .i64 0)), some (95, true), 4095⟩, ⟨some 98, .pick (.tmp 95) (.tmp 97) (.val (.bool false)), none, 8191⟩, ⟨some 99, .move (.tmp 98), none, 16383⟩, ⟨some 100, .move (.tmp 11), some (99, true), 32767⟩, ⟨some 101, .move (.tmp 13), some (99, true), 32767⟩, ⟨some 102, .eq false (.num) (.tmp 100) (.tmp 101), some (99, true), 131071⟩, ⟨some 103, .pick (.tmp 99) (.tmp 102) (.val (.bool false)), none, 262143⟩, ⟨some 4, .assign (.tmp 103), none, 524287⟩] false) (.ret))))))))))))
abbrev v4 : VFunc := { nparams := 2, ntmps := 104, nsites := 0, results := [.tmp 4], body := b4 }
def SNx (l : List Int) (n : Int) : St := ⟨(.isl 0 1 (iV l) :: .gone 0 :: .gone 0 :: .gone 0 :: .gone 0 :: .gone 0 :: .int .i64 n :: .gone 0 :: .gone 0 :: .gone 0 :: .gone 0 :: .gone 0 :: .gone 0 :: .gone 0 :: .gone 0 :: .gone 0 :: .gone 0 :: .gone 0 :: .gone 0 :: .gone 0 :: .gone 0 :: .gone 0 :: .gone 0 :: .gone 0 :: .gone 0 :: []), []⟩
section
variable (G : VProg)
theorem rnext (hG : G 14 = some (.code v14)) (hR : ∀ t : Int, lim G 18 [.int .i64 t] [] = some (.bool (rightT t), []))
    (hD : ∀ (l : List Int) (_ : l.length < 2 ^ 44), lim G 20 [.isl 0 1 (iV l)] [] = some (.bool (fitsD l), []))
    (hC : ∀ (l : List Int) (_ : l.length < 2 ^ 44) (t : Int) (_ : 0 ≤ t), lim G 21 [.isl 0 1 (iV l), .int .i64 t] [] = some (.bool (closesB l t), []))
    (l : List Int) (hl : l.length < 2 ^ 44) (t : Int) : lim G 14 [.isl 0 1 (iV l), .int .i64 t] [] = some (nextV l t, []) := by
  have t1 := hR t
  have t2 := hD l hl
  unfold nextV
  cases hf : fitsD l
  · rw [hf] at t2
    rw [if_neg (by simp)]
    exact lim_fun hG (h := runV trivial trivial trivial)
  cases hr : rightT t
  · rw [hr] at t1
    rw [hf] at t2
    rw [if_neg (by simp)]
    exact lim_fun hG (h := runV trivial trivial trivial)
  rw [hr] at t1
  rw [hf] at t2
  rw [if_pos ⟨rfl, rfl⟩]
  have hF := fit_of hf
  have hb := right_bd hr
  obtain ⟨o1, o2, o3, o4⟩ := next_ok hF hb.1
  obtain ⟨v, hv⟩ : ∃ v, v = nextN l t := ⟨_, rfl⟩
  rw [← hv] at o1 o2 o3 o4 ⊢
  have e1 : IntKind.i64.wrap (t + 1) = t + 1 := wrapi64 _ (by omega) (by omega)
  refine lim_fun hG (h := runV e1 trivial ?_)
  clear t1 t2
  refine WL_loop (SNx l) (fun n => t < n ∧ n ≤ v ∧ n ≤ 1099511627777) (fun n => (1099511627778 - n).toNat) ?_ (t + 1) _ ⟨by omega, by omega, by omega⟩ (by kernel_rfl)
  rintro n ⟨h1, h2, h3⟩
  by_cases hM : n ≤ 1099511627776
  · have c1 : decide (n ≤ 1099511627776) = true := by simpa using hM
    have i1 : IntKind.i64.wrap (n + 1) = n + 1 := wrapi64 _ (by omega) (by omega)
    have t1 := hC l hl n (by omega)
    unfold SNx
    by_cases hn : n = v
    · subst hn
      rw [o3] at t1
      have hrv : rightT n = true := by unfold rightT; simp; omega
      unfold toldV
      rw [if_pos hrv, if_pos hrv]
      clear hC hD hR
      refine runV (And.intro c1 i1) trivial ?_
      exact Qr_r (Qb_r (Qs_r (Qe_r (by kernel_rfl))))
    · rw [o4 n h1 (by omega)] at t1
      clear hC hD hR
      refine runV (And.intro c1 i1) trivial ?_
      exact Qr_n (n + 1) (by kernel_rfl) ⟨⟨by omega, by omega, by omega⟩, by omega⟩
  · have c1 : decide (n ≤ 1099511627776) = false := by simpa using hM
    have hrv : rightT v = false := by
      unfold rightT
      rw [show decide (v ≤ 1099511627776) = false by simp; omega, Bool.and_false]
    unfold toldV
    rw [hrv]
    simp only [Bool.false_eq_true, if_false]
    unfold SNx
    refine runV c1 trivial ?_
    refine Qr_x ?_
    refine Qb_x (σ1 := ⟨(.gone 0 :: .gone 0 :: .gone 0 :: .gone 0 :: .gone 0 :: .gone 0 :: .gone 0 :: .gone 0 :: .gone 0 :: .gone 0 :: .gone 0 :: .gone 0 :: .gone 0 :: .gone 0 :: .gone 0 :: .gone 0 :: .gone 0 :: .gone 0 :: .gone 0 :: .gone 0 :: .gone 0 :: .gone 0 :: .gone 0 :: .gone 0 :: .gone 0 :: []), []⟩) (by kernel_rfl) ?_
    exact runV trivial trivial trivial
abbrev HBefore (G : VProg) : Prop := ∀ (l : List Int) (_ : Fit l) (t : Int) (_ : rightT t = true), lim G 28 [.isl 0 1 (iV l), .int .i64 t] [] = some (.int .i64 (beforeN l t), [])
theorem before_bd {l : List Int} (h : Fit l) {t : Int} (ht : rightT t = true) : 0 ≤ beforeN l t ∧ beforeN l t ≤ 1099511627776 * 97 := by
  have hb := right_bd ht
  have hln := h.len
  have hN := searchN_le l (t % 96 + 1)
  have hp : 0 ≤ t / 96 * (l.length : Int) ∧ t / 96 * (l.length : Int) ≤ 11453246123 * 96 := ⟨Int.mul_nonneg (by omega) (by omega), Int.mul_le_mul (by omega) (by omega) (by omega) (by omega)⟩
  unfold beforeN
  omega
theorem dpassed (hG : G 19 = some (.code v19)) (hR : HRight G) (hD : HDoors G) (hB : HBefore G) (l : List Int) (hl : l.length < 2 ^ 44) (a b : Int) :
    lim G 19 [.isl 0 1 (iV l), .int .i64 a, .int .i64 b] [] = some (passedV l a b, []) := by
  have t1 := hD l hl
  have t2 := hR a
  have t3 := hR b
  unfold passedV
  cases hf : fitsD l
  · rw [hf] at t1
    rw [if_neg (by simp)]
    exact lim_fun hG (h := runV trivial trivial trivial)
  rw [hf] at t1
  cases ha : rightT a
  · rw [ha] at t2
    rw [if_neg (by simp)]
    exact lim_fun hG (h := runV trivial trivial trivial)
  rw [ha] at t2
  cases hb : rightT b
  · rw [hb] at t3
    rw [if_neg (by simp)]
    exact lim_fun hG (h := runV trivial trivial trivial)
  rw [hb] at t3
  cases hc : decide (b < a)
  case true =>
    rw [if_neg (by simp only [decide_eq_true_eq] at hc; omega)]
    exact lim_fun hG (h := runV hc trivial trivial)
  rw [if_pos ⟨rfl, rfl, rfl, by simp only [decide_eq_false_iff_not] at hc; omega⟩]
  have hF := fit_of hf
  have t4 := hB l hF a ha
  have t5 := hB l hF b hb
  have h1 := before_bd hF ha
  have h2 := before_bd hF hb
  have e1 : IntKind.i64.wrap (beforeN l b - beforeN l a) = beforeN l b - beforeN l a := wrapi64 _ (by omega) (by omega)
  obtain ⟨x, hx⟩ : ∃ x, x = beforeN l a := ⟨_, rfl⟩
  obtain ⟨y, hy⟩ : ∃ y, y = beforeN l b := ⟨_, rfl⟩
  rw [← hx] at t4 e1 ⊢
  rw [← hy] at t5 e1 ⊢
  clear hR hD hB hx hy
  exact lim_fun hG (h := runV (And.intro hc e1) trivial trivial)
end
end P1
end Go.Vq
namespace Go.Vq
namespace P1
open Go
set_option maxRecDepth 1000000
set_option maxHeartbeats 8000000
theorem nextV_tup (l : List Int) (t : Int) : ∃ a b : Int, nextV l t = .tup [.int .i64 a, .int .i64 b] := by
  unfold nextV toldV
  split <;> exact ⟨_, _, rfl⟩
section
variable (G : VProg)
theorem dayNext (hG : G 4 = some (.code v4)) (hA : lim G 9 [] [] = some (.bool true, []))
    (hN : ∀ (l : List Int) (_ : l.length < 2 ^ 44) (t : Int), lim G 13 [.isl 0 1 (iV l), .int .i64 t] [] = some (nextV l t, []))
    (hM : ∀ (l : List Int) (_ : l.length < 2 ^ 44) (t : Int), lim G 14 [.isl 0 1 (iV l), .int .i64 t] [] = some (nextV l t, []))
    (hO : HOf G) (hE : ∀ t : Int, lim G 16 [.int .i64 t] [] = some (endV t, [])) (hR : HRight G) (hS : ∀ t : Int, lim G 18 [.int .i64 t] [] = some (.bool (rightT t), []))
    (l : List Int) (t : Int) : lim G 4 [.isl 0 1 (iV l), .int .i64 t] [] = some (.bool true, []) := by
  cases b1 : decide (200 < (l.length : Int))
  case true => exact lim_fun hG (h := runV (And.intro b1 (iV_len l)) trivial trivial)
  have k1 : l.length ≤ 200 := by simp at b1; omega
  have t1 := hN l (by omega) t
  have t2 := hM l (by omega) t
  obtain ⟨a, b, e⟩ := nextV_tup l t
  rw [e] at t1 t2
  have t3 := hO t
  have t4 := hE t
  have t5 := hR t
  have t6 := hS t
  unfold ofT at t3
  unfold endV at t4
  clear hN hM hO hE hR hS e
  cases hr : rightT t
  · rw [hr] at t3 t4 t5 t6
    simp only [Bool.false_eq_true, if_false] at t3 t4
    exact lim_fun hG (h := runV (And.intro b1 (iV_len l)) trivial trivial)
  rw [hr] at t3 t4 t5 t6
  simp only [if_true] at t3 t4
  have hb := right_bd hr
  have e1 : IntKind.i64.wrap (t.tdiv 96) = t / 96 := by rw [Int.tdiv_eq_ediv_of_nonneg hb.1, wrapi64 _ (by omega) (by omega)]
  have e2 : t.tmod 96 = t % 96 := Int.tmod_eq_emod_of_nonneg hb.1
  obtain ⟨d, hd⟩ : ∃ d, d = t / 96 := ⟨_, rfl⟩
  obtain ⟨m, hm⟩ : ∃ m, m = t % 96 := ⟨_, rfl⟩
  have hw : t - t % 96 + 96 = 96 * (d + 1) := by omega
  rw [hw] at t4
  rw [← hd, ← hm] at t3
  rw [← hd] at e1
  rw [← hm] at e2
  have e3 : IntKind.i64.wrap (d + 1) = d + 1 := wrapi64 _ (by omega) (by omega)
  obtain ⟨w, hww⟩ : ∃ w, w = 96 * (d + 1) := ⟨_, rfl⟩
  have e4 : IntKind.i64.wrap (96 * (d + 1)) = w := by rw [hww]; exact wrapi64 _ (by omega) (by omega)
  rw [← hww] at t4
  have hw0 : 0 ≤ w := by omega
  unfold toldV at t4
  cases c : decide (1099511627776 < w)
  · have hrw : rightT w = true := by unfold rightT; simp at c ⊢; omega
    rw [hrw] at t4
    simp only [if_true] at t4
    clear hww hw hd hm
    exact lim_fun hG (h := runV (And.intro b1 (And.intro (iV_len l) (And.intro e1 (And.intro e2 (And.intro e3 (And.intro e4 c)))))) trivial trivial)
  · have hrw : rightT w = false := by unfold rightT; simp at c ⊢; omega
    rw [hrw] at t4
    simp only [Bool.false_eq_true, if_false] at t4
    clear hww hw hd hm
    exact lim_fun hG (h := runV (And.intro b1 (And.intro (iV_len l) (And.intro e1 (And.intro e2 (And.intro e3 (And.intro e4 c)))))) trivial trivial)
end
end P1
end Go.Vq
namespace Go.Vq
namespace P1
open Go
set_option maxRecDepth 1000000
set_option maxHeartbeats 8000000
theorem searchN_cons (y : Int) (l : List Int) (x : Int) : searchN (y :: l) x = if y < x then searchN l x + 1 else 0 := by
  unfold searchN
  rw [List.takeWhile_cons]
  by_cases h : y < x
  · rw [if_pos (by simpa using h), if_pos h, List.length_cons]
  · rw [if_neg (by simpa using h), if_neg h]; rfl
theorem searchN_none (x : Int) : ∀ l : List Int, (∀ y ∈ l, x ≤ y) → searchN l x = 0
  | [], _ => rfl
  | y :: l, h => by rw [searchN_cons, if_neg (by have := h y (by simp); omega)]
theorem searchN_all (x : Int) : ∀ l : List Int, (∀ y ∈ l, y < x) → searchN l x = l.length
  | [], _ => rfl
  | y :: l, h => by rw [searchN_cons, if_pos (h y (by simp)), searchN_all x l fun y hy => h y (by simp [hy])]; rfl
theorem searchN_succ (x : Int) : ∀ l : List Int, l.Pairwise (· < ·) → searchN l (x + 1) = searchN l x + (if x ∈ l then 1 else 0)
  | [], _ => by simp [searchN]
  | y :: l, h => by
    have ih := searchN_succ x l h.of_cons
    have hy : ∀ {z : Int}, z ∈ l → y < z := fun hz => (List.pairwise_cons.1 h).1 _ hz
    rw [searchN_cons, searchN_cons]
    by_cases h1 : y < x
    · rw [if_pos (by omega), if_pos h1, ih]
      have : x ∈ y :: l ↔ x ∈ l := by simp; omega
      simp only [this]
      omega
    · rw [if_neg h1]
      by_cases h2 : y = x
      · subst h2
        rw [if_pos (by omega), if_pos (by simp), searchN_none (y + 1) l fun z hz => by have := hy hz; omega]
      · rw [if_neg (by omega), if_neg (by
          simp only [List.mem_cons, not_or]
          exact ⟨fun e => h2 e.symm, fun hm => by have := hy hm; omega⟩)]
theorem closes_mem {l : List Int} {t : Int} : closesB l t = true ↔ t % 96 ∈ l := by
  rw [closes_iff]
  constructor
  · rintro ⟨k, h, e⟩; rw [← e]; exact List.getElem_mem h
  · intro h
    obtain ⟨k, hk, e⟩ := List.getElem_of_mem h
    exact ⟨k, hk, e⟩
theorem before_step {l : List Int} (h : Fit l) {t : Int} (ht : 0 ≤ t) : beforeN l (t + 1) = beforeN l t + (if closesB l (t + 1) = true then 1 else 0) := by
  unfold beforeN
  by_cases hr : t % 96 = 95
  · have e1 : (t + 1) / 96 = t / 96 + 1 := by omega
    have e2 : (t + 1) % 96 = 0 := by omega
    have h0 := searchN_succ 0 l h.pw
    rw [searchN_none 0 l fun y hy => (h.rng y hy).1] at h0
    have hA : searchN l (95 + 1) = l.length := searchN_all _ l fun y hy => by have := h.rng y hy; omega
    have hm : closesB l (t + 1) = true ↔ 0 ∈ l := by rw [closes_mem, e2]
    rw [e1, e2, hr, hA, h0, Int.add_mul]
    by_cases hm0 : (0 : Int) ∈ l
    · rw [if_pos hm0, if_pos (hm.2 hm0)]; omega
    · rw [if_neg hm0, if_neg (fun e => hm0 (hm.1 e))]; omega
  · have e1 : (t + 1) / 96 = t / 96 := by omega
    have e2 : (t + 1) % 96 = t % 96 + 1 := by omega
    have h0 := searchN_succ (t % 96 + 1) l h.pw
    have hm : closesB l (t + 1) = true ↔ t % 96 + 1 ∈ l := by rw [closes_mem, e2]
    rw [e1, e2, h0]
    by_cases hm0 : t % 96 + 1 ∈ l
    · rw [if_pos hm0, if_pos (hm.2 hm0)]; omega
    · rw [if_neg hm0, if_neg (fun e => hm0 (hm.1 e))]; omega
theorem before_day (l : List Int) (t : Int) : beforeN l (t + 96) = beforeN l t + (l.length : Int) := by
  unfold beforeN
  have e1 : (t + 96) / 96 = t / 96 + 1 := by omega
  have e2 : (t + 96) % 96 = t % 96 := by omega
  rw [e1, e2, Int.add_mul]
  omega
theorem before_days (l : List Int) (t : Int) : ∀ n : Nat, beforeN l (t + 96 * n) = beforeN l t + n * (l.length : Int)
  | 0 => by simp
  | n + 1 => by
    have := before_day l (t + 96 * n)
    have ih := before_days l t n
    rw [show t + 96 * ((n + 1 : Nat) : Int) = t + 96 * (n : Int) + 96 by omega, this, ih]
    rw [show ((n + 1 : Nat) : Int) = (n : Int) + 1 by omega, Int.add_mul]
    omega
theorem before_mono {l : List Int} (h : Fit l) {t : Int} (ht : 0 ≤ t) : ∀ n : Nat, beforeN l t ≤ beforeN l (t + n)
  | 0 => by simp
  | n + 1 => by
    have ih := before_mono h ht n
    have := before_step h (t := t + n) (by omega)
    rw [show t + ((n + 1 : Nat) : Int) = t + (n : Int) + 1 by omega, this]
    split <;> omega
theorem before_far {l : List Int} (h : Fit l) {a b : Int} (ha : 0 ≤ a) (hab : a ≤ b) : (b - a) / 96 * (l.length : Int) ≤ beforeN l b - beforeN l a := by
  obtain ⟨n, hn⟩ : ∃ n : Nat, (n : Int) = (b - a) / 96 := ⟨((b - a) / 96).toNat, by omega⟩
  have h1 := before_days l a n
  have h2 := before_mono h (t := a + 96 * n) (by omega) (b - (a + 96 * n)).toNat
  rw [show a + 96 * (n : Int) + ((b - (a + 96 * (n : Int))).toNat : Int) = b by omega] at h2
  rw [← hn]
  omega
end P1
end Go.Vq
