/- A machine of values and its tie to the model, and runs of it: part 22 of 18 (no law of Go is stated here). -/
import Derived.Test.YtbbpandancpibaaF21
set_option linter.unusedVariables false
set_option linter.unusedSimpArgs false
set_option linter.unusedSectionVars false
namespace Go.Vq
namespace P1
open Go
set_option maxRecDepth 1000000
set_option maxHeartbeats 8000000
abbrev b34 : VCode := .seq (.region [⟨some 2, .assign (.val .nil), none, 0⟩, ⟨some 3, .assign (.val (.nilS 1)), none, 1⟩, ⟨some 4, .assign (.val (.nilS 1)), none, 3⟩] false) (.seq (.region [⟨some 11, .move (.tmp 0), none, 0⟩, ⟨some 12, .build [.nil, (.int .i64 0), (.int .u64 0), (.int .i64 0), (.bool false)] [(0, 1, (.tmp 11)), (1, 1, (.val (.int .i64 1)))], none, 1⟩, ⟨some 13, .box 0 5 (.tmp 12), none, 3⟩, ⟨some 5, .assign (.tmp 13), none, 7⟩] false) (.seq (.region [⟨some 15, .move (.tmp 0), none, 0⟩, ⟨some 16, .call false 61 1 [(.tmp 15), (.val (.int .i64 0))], none, 1⟩, ⟨some 14, .move (.tmp 16), none, 3⟩, ⟨some 17, .extract (.tmp 14) 0, none, 7⟩, ⟨some 18, .extract (.tmp 14) 1, none, 7⟩, ⟨some 6, .assign (.tmp 17), none, 15⟩, ⟨some 7, .assign (.tmp 18), none, 63⟩] false) (.seq (.region [⟨some 20, .move (.tmp 0), none, 0⟩, ⟨some 21, .call false 61 1 [(.tmp 20), (.val (.int .i64 1))], none, 1⟩, ⟨some 19, .move (.tmp 21), none, 3⟩, ⟨some 22, .extract (.tmp 19) 0, none, 7⟩, ⟨some 23, .extract (.tmp 19) 1, none, 7⟩, ⟨some 8, .assign (.tmp 22), none, 15⟩, ⟨some 9, .assign (.tmp 23), none, 63⟩] false) (.seq (.region [⟨some 24, .move (.tmp 9), none, 0⟩, ⟨some 10, .assign (.tmp 24), none, 1⟩] false) (.seq (.seq (.region [⟨some 25, .move (.tmp 7), none, 0⟩, ⟨some 26, .len (.slc 1) (.tmp 25), none, 1⟩, ⟨some 27, .bin (.gtr) (.tmp 26) (.val (.int .i64 0)), none, 3⟩, ⟨some 28, .move (.tmp 27), none, 7⟩, ⟨some 29, .move (.tmp 9), some (28, true), 15⟩, ⟨some 30, .len (.slc 1) (.tmp 29), some (28, true), 31⟩, ⟨some 31, .eq false (.num) (.tmp 30) (.val (.int .i64 0)), some (28, true), 63⟩, ⟨some 32, .move (.tmp 31), some (28, true), 127⟩, ⟨some 33, .move (.tmp 6), some (32, false), 255⟩, ⟨some 34, .move (.tmp 8), some (32, false), 255⟩, ⟨some 35, .bin (.gtr) (.tmp 33) (.tmp 34), some (32, false), 1023⟩, ⟨some 36, .pick (.tmp 32) (.val (.bool true)) (.tmp 35), some (28, true), 2047⟩, ⟨some 37, .pick (.tmp 28) (.tmp 36) (.val (.bool false)), none, 4095⟩] false) (.cond (.tmp 37) (.region [⟨some 38, .move (.tmp 5), none, 0⟩, ⟨some 39, .move (.tmp 7), none, 0⟩, ⟨some 40, .nilCheck (.tmp 38), none, 1⟩, ⟨some 41, .fieldAddr 1 (.tmp 40), none, 5⟩, ⟨none, .store 1 (.tmp 41) (.val (.int .i64 0)), none, 13⟩, ⟨some 10, .assign (.tmp 39), none, 31⟩] false) (.skip))) (.seq (.seq (.region [⟨some 42, .move (.tmp 10), none, 0⟩, ⟨some 43, .len (.slc 1) (.tmp 42), none, 1⟩, ⟨some 44, .eq false (.num) (.tmp 43) (.val (.int .i64 0)), none, 3⟩] false) (.cond (.tmp 44) (.seq (.region [⟨some 45, .move (.tmp 5), none, 0⟩, ⟨some 2, .assign (.tmp 45), none, 1⟩, ⟨some 3, .assign (.val (.nilS 1)), none, 3⟩, ⟨some 4, .assign (.val (.nilS 1)), none, 7⟩] false) (.ret)) (.skip))) (.seq (.region [⟨some 46, .move (.tmp 5), none, 0⟩, ⟨some 47, .move (.tmp 10), none, 0⟩, ⟨some 48, .indexAddr none 1 (.tmp 47) (.val (.int .i64 0)), none, 2⟩, ⟨some 49, .load false 1 (.tmp 48), none, 6⟩, ⟨some 50, .move (.tmp 10), none, 0⟩, ⟨some 51, .slice (.slc 1) (.tmp 50) (some (.val (.int .i64 1))) none none, none, 16⟩, ⟨some 2, .assign (.tmp 46), none, 1⟩, ⟨some 3, .assign (.tmp 49), none, 79⟩, ⟨some 4, .assign (.tmp 51), none, 255⟩] true) (.ret))))))))
abbrev v34 : VFunc := { nparams := 1, ntmps := 52, nsites := 1, results := [.tmp 2, .tmp 3, .tmp 4], body := b34 }
def pickR (a b : Nat × List (List Nat)) : Nat × List (List Nat) := if a.2 ≠ [] ∧ (b.2 = [] ∨ b.1 < a.1) then (0, a.2) else (1, b.2)
def openR (es : List (List Nat)) (ls : List (Nat × List Nat)) : Nat × List (List Nat) := pickR (sideN es ls ((0 : Nat) : Int)) (sideN es ls ((1 : Nat) : Int))
def openRV : List (List Nat) → V
  | [] => .tup [.ptr (.obj 1 0), .xsl 0 1 [], .xsl 0 1 []]
  | t :: ws => .tup [.ptr (.obj 1 0), .isl 0 1 (byN t), .xsl 0 1 (ws.map iB)]
theorem openAll_len : ∀ (f k : Nat) (l : List (List Nat)), (openAll f k l).length ≤ f
  | 0, _, _ => Nat.le_refl _
  | f + 1, k, l => by
    simp only [openAll]
    split
    · simp
    · split
      · simp
      · have := openAll_len f 2 (l.drop (cellsN (openN l.flatten).2.1))
        simp only [List.length_cons]; omega
theorem sideN_len (es ls s) : (sideN es ls s).2.length ≤ es.length / 2 := by
  have h1 := openAll_len (readN es ls s).2.length 1 (readN es ls s).2
  have h2 := readN_le' es ls s
  exact Nat.le_trans h1 h2
section
variable (G : VProg)
theorem ropen (hG : G 34 = some (.code v34)) (hS : ∀ (s : Nat) (_ : s < 2) (es fz ls off left) (_ : PW es ls), lim G 61 [q0, .int .i64 s] [plateO es fz ls off left] = some (readV (sideN es ls s), [plateO es (fz || decide (0 < es.length / 2)) ls off left]))
    (es fz ls off left) (h : PW es ls) : lim G 34 [q0] [plateO es fz ls off left] = some (openRV (openR es ls).2, [plateO es (fz || decide (0 < es.length / 2)) ls off left, reelO 0 (openR es ls).1 0 0 false]) := by
  have t1 : lim G 61 [q0, .int .i64 0] [plateO es fz ls off left] = some (readV (sideN es ls ((0 : Nat) : Int)), [plateO es (fz || decide (0 < es.length / 2)) ls off left]) := hS 0 (by decide) es fz ls off left h
  have t2 : lim G 61 [q0, .int .i64 1] [plateO es (fz || decide (0 < es.length / 2)) ls off left] = some (readV (sideN es ls ((1 : Nat) : Int)), [plateO es ((fz || decide (0 < es.length / 2)) || decide (0 < es.length / 2)) ls off left]) := hS 1 (by decide) es _ ls off left h
  rw [Bool.or_assoc, Bool.or_self] at t2
  have la := sideN_len es ls ((0 : Nat) : Int)
  have lb := sideN_len es ls ((1 : Nat) : Int)
  unfold openR
  obtain ⟨⟨ra, a⟩, hra⟩ : ∃ x, x = sideN es ls ((0 : Nat) : Int) := ⟨_, rfl⟩
  obtain ⟨⟨rb, b⟩, hrb⟩ : ∃ x, x = sideN es ls ((1 : Nat) : Int) := ⟨_, rfl⟩
  rw [← hra] at t1 la ⊢
  rw [← hrb] at t2 lb ⊢
  simp only at la lb
  have hn := h.n
  have hz0 : decide (0 < es.length / 2) = false → a = [] ∧ b = [] := by
    intro hf
    have : es.length / 2 = 0 := by simpa using hf
    exact ⟨List.eq_nil_of_length_eq_zero (by omega), List.eq_nil_of_length_eq_zero (by omega)⟩
  obtain ⟨z, hz⟩ : ∃ z, z = decide (0 < es.length / 2) := ⟨_, rfl⟩
  rw [← hz] at t1 t2 hz0 ⊢
  clear hz hra hrb hS h
  cases z
  case false =>
    obtain ⟨rfl, rfl⟩ := hz0 rfl
    simp only [Bool.or_false] at t1 t2 ⊢
    have hp : pickR (ra, []) (rb, []) = (1, []) := by simp [pickR]
    rw [hp]
    cases fz
    all_goals exact lim_fun hG (h := runV trivial trivial trivial)
  case true =>
    clear hz0
    rw [Bool.or_true] at t1 t2 ⊢
    by_cases ha : a = []
    · subst ha
      have hp : pickR (ra, []) (rb, b) = (1, b) := by simp [pickR]
      rw [hp]
      cases b with
      | nil =>
        cases fz
        all_goals exact lim_fun hG (h := runV trivial trivial trivial)
      | cons t ws =>
        have g1 : (((t :: ws).length : Int) == 0) = false := by simp only [List.length_cons, beq_eq_false_iff_ne, ne_eq]; omega
        obtain ⟨l, hl⟩ : ∃ l, l = t :: ws := ⟨_, rfl⟩
        have g2 : (l.map iB)[0]? = some (iB t) := by rw [hl]; rfl
        have g3 : List.take (l.length - 1) (List.drop 1 (l.map iB)) = ws.map iB := by rw [hl]; simp only [List.map_cons, List.drop_succ_cons, List.drop_zero, List.length_cons, Nat.add_sub_cancel]; exact List.take_of_length_le (by simp)
        have g4 : (1 : Int) ≤ (l.length : Int) := by rw [hl]; simp only [List.length_cons]; omega
        have g5 : (0 : Int) < (l.length : Int) := by omega
        have g6 : 1 + (l.length - 1) ≤ l.length := by omega
        have hll : 0 < l.length := by omega
        rw [← hl] at t2 g1
        simp only [openRV]
        clear hl
        cases fz
        all_goals
          refine lim_fun hG (h := runV (And.intro g1 (And.intro g2 (And.intro g4 (And.intro g5 hll)))) (And.intro g4 (And.intro g5 hll)) ?_)
          exact Qe_r (fin_open rfl rfl rfl rfl rfl rfl (by rw [List.length_map]; exact g6) g3 rfl rfl)
    · have hal := List.length_pos_iff.2 ha
      have c1 : decide ((0 : Int) < (a.length : Int)) = true := by simp only [decide_eq_true_eq]; omega
      have c2 : ((a.length : Int) == 0) = false := by simp only [beq_eq_false_iff_ne, ne_eq]; omega
      have useA : b = [] ∨ rb < ra → lim G 34 [q0] [plateO es fz ls off left] = some (openRV (pickR (ra, a) (rb, b)).2, [plateO es true ls off left, reelO 0 (pickR (ra, a) (rb, b)).1 0 0 false]) := by
        intro hor
        have hp : pickR (ra, a) (rb, b) = (0, a) := by simp only [pickR]; rw [if_pos ⟨ha, hor⟩]
        rw [hp]
        obtain ⟨t, ws, hl⟩ : ∃ t ws, a = t :: ws := by cases a with | nil => exact absurd rfl ha | cons t ws => exact ⟨t, ws, rfl⟩
        have g2 : (a.map iB)[0]? = some (iB t) := by rw [hl]; rfl
        have g3 : List.take (a.length - 1) (List.drop 1 (a.map iB)) = ws.map iB := by rw [hl]; simp only [List.map_cons, List.drop_succ_cons, List.drop_zero, List.length_cons, Nat.add_sub_cancel]; exact List.take_of_length_le (by simp)
        have g4 : (1 : Int) ≤ (a.length : Int) := by omega
        have g5 : (0 : Int) < (a.length : Int) := by omega
        have g6 : 1 + (a.length - 1) ≤ a.length := by omega
        have hv : openRV a = .tup [.ptr (.obj 1 0), .isl 0 1 (byN t), .xsl 0 1 (ws.map iB)] := by rw [hl]; rfl
        simp only [hv]
        clear hl hp hv
        cases b3 : ((b.length : Int) == 0)
        · have hb3 : b ≠ [] := by intro e; rw [e] at b3; simp at b3
          have hlt : rb < ra := hor.resolve_left hb3
          have b4 : decide ((rb : Int) < (ra : Int)) = true := by simp only [decide_eq_true_eq]; omega
          cases fz
          all_goals
            refine lim_fun hG (h := runV (And.intro c1 (And.intro c2 (And.intro b3 (And.intro b4 (And.intro g2 (And.intro g4 (And.intro g5 hal))))))) (And.intro g4 (And.intro g5 hal)) ?_)
            exact Qe_r (fin_open rfl rfl rfl rfl rfl rfl (by rw [List.length_map]; exact g6) g3 rfl rfl)
        · cases fz
          all_goals
            refine lim_fun hG (h := runV (And.intro c1 (And.intro c2 (And.intro b3 (And.intro g2 (And.intro g4 (And.intro g5 hal)))))) (And.intro g4 (And.intro g5 hal)) ?_)
            exact Qe_r (fin_open rfl rfl rfl rfl rfl rfl (by rw [List.length_map]; exact g6) g3 rfl rfl)
      by_cases hor : b = [] ∨ rb < ra
      · exact useA hor
      · clear useA
        simp only [not_or] at hor
        obtain ⟨hb0, hge⟩ := hor
        have hp : pickR (ra, a) (rb, b) = (1, b) := by simp only [pickR]; rw [if_neg]; rintro ⟨_, h | h⟩; exact hb0 h; exact hge h
        rw [hp]
        have hbl := List.length_pos_iff.2 hb0
        have b3 : ((b.length : Int) == 0) = false := by simp only [beq_eq_false_iff_ne, ne_eq]; omega
        have b4 : decide ((rb : Int) < (ra : Int)) = false := by simp only [decide_eq_false_iff_not]; omega
        obtain ⟨t, ws, hl⟩ : ∃ t ws, b = t :: ws := by cases b with | nil => exact absurd rfl hb0 | cons t ws => exact ⟨t, ws, rfl⟩
        have g2 : (b.map iB)[0]? = some (iB t) := by rw [hl]; rfl
        have g3 : List.take (b.length - 1) (List.drop 1 (b.map iB)) = ws.map iB := by rw [hl]; simp only [List.map_cons, List.drop_succ_cons, List.drop_zero, List.length_cons, Nat.add_sub_cancel]; exact List.take_of_length_le (by simp)
        have g4 : (1 : Int) ≤ (b.length : Int) := by omega
        have g5 : (0 : Int) < (b.length : Int) := by omega
        have g6 : 1 + (b.length - 1) ≤ b.length := by omega
        have hv : openRV b = .tup [.ptr (.obj 1 0), .isl 0 1 (byN t), .xsl 0 1 (ws.map iB)] := by rw [hl]; rfl
        simp only [hv]
        clear hl hp hv
        cases fz
        all_goals
          refine lim_fun hG (h := runV (And.intro c1 (And.intro b3 (And.intro b4 (And.intro g2 (And.intro g4 (And.intro g5 hbl)))))) (And.intro g4 (And.intro g5 hbl)) ?_)
          exact Qe_r (fin_open rfl rfl rfl rfl rfl rfl (by rw [List.length_map]; exact g6) g3 rfl rfl)
end
end P1
end Go.Vq
namespace Go.Vq
namespace P1
open Go
set_option maxRecDepth 1000000
set_option maxHeartbeats 8000000
abbrev b35 : VCode := .seq (.region [⟨some 4, .assign (.val (.int .i64 0)), none, 0⟩] false) (.seq (.region [⟨some 11, .move (.tmp 1), none, 0⟩, ⟨some 12, .build [(.int .u8 0), (.nilS 1)] [(0, 1, (.val (.int .u8 1))), (1, 1, (.tmp 11))], none, 1⟩, ⟨some 13, .call true 62 0 [(.tmp 12)], none, 3⟩, ⟨some 10, .move (.tmp 13), none, 7⟩, ⟨some 14, .extract (.tmp 10) 0, none, 15⟩, ⟨some 15, .extract (.tmp 10) 1, none, 15⟩, ⟨some 5, .assign (.tmp 14), none, 31⟩, ⟨some 6, .assign (.tmp 15), none, 127⟩] false) (.seq (.region [⟨some 16, .move (.tmp 0), none, 0⟩, ⟨some 17, .nilCheck (.tmp 16), none, 1⟩, ⟨some 18, .fieldAddr 0 (.tmp 17), none, 3⟩, ⟨some 19, .load false 1 (.tmp 18), none, 7⟩, ⟨some 20, .call false 16 0 [(.tmp 19)], none, 15⟩, ⟨some 7, .assign (.tmp 20), none, 31⟩] false) (.seq (.seq (.region [⟨some 21, .move (.tmp 6), none, 0⟩, ⟨some 22, .eq true (.num) (.tmp 21) (.val (.int .i64 0)), none, 1⟩, ⟨some 23, .move (.tmp 22), none, 3⟩, ⟨some 24, .move (.tmp 5), some (23, false), 7⟩, ⟨some 25, .len (.slc 1) (.tmp 24), some (23, false), 15⟩, ⟨some 26, .call true 63 0 [(.tmp 25)], some (23, false), 31⟩, ⟨some 27, .move (.tmp 0), some (23, false), 7⟩, ⟨some 28, .nilCheck (.tmp 27), some (23, false), 71⟩, ⟨some 29, .fieldAddr 0 (.tmp 28), some (23, false), 199⟩, ⟨some 30, .load false 1 (.tmp 29), some (23, false), 455⟩, ⟨some 31, .call false 28 0 [(.tmp 30)], some (23, false), 1023⟩, ⟨some 32, .bin (.gtr) (.tmp 26) (.tmp 31), some (23, false), 2047⟩, ⟨some 33, .pick (.tmp 23) (.val (.bool true)) (.tmp 32), none, 4095⟩, ⟨some 34, .move (.tmp 33), none, 8191⟩, ⟨some 35, .move (.tmp 7), some (34, false), 16383⟩, ⟨some 36, .bin (.geq) (.tmp 35) (.val (.int .u64 1099511627776)), some (34, false), 32767⟩, ⟨some 37, .pick (.tmp 34) (.val (.bool true)) (.tmp 36), none, 65535⟩] true) (.cond (.tmp 37) (.seq (.region [⟨some 4, .assign (.val (.int .i64 92)), none, 0⟩] false) (.ret)) (.skip))) (.seq (.region [⟨some 38, .move (.tmp 0), none, 0⟩, ⟨some 39, .nilCheck (.tmp 38), none, 1⟩, ⟨some 40, .fieldAddr 4 (.tmp 39), none, 3⟩, ⟨none, .store 1 (.tmp 40) (.val (.bool false)), none, 7⟩] false) (.seq (.seq (.region [⟨some 41, .move (.tmp 0), none, 0⟩, ⟨some 42, .move (.tmp 0), none, 0⟩, ⟨some 43, .nilCheck (.tmp 42), none, 2⟩, ⟨some 44, .fieldAddr 1 (.tmp 43), none, 6⟩, ⟨some 45, .load false 1 (.tmp 44), none, 14⟩, ⟨some 46, .bin (.sub) (.val (.int .i64 1)) (.tmp 45), none, 30⟩, ⟨some 47, .move (.tmp 7), none, 0⟩, ⟨some 48, .bin (.add) (.tmp 47) (.val (.int .u64 1)), none, 64⟩, ⟨some 49, .move (.tmp 5), none, 0⟩, ⟨some 50, .call false 64 0 [(.tmp 41), (.tmp 46), (.tmp 48), (.val (.int .i64 0)), (.tmp 49)], none, 511⟩, ⟨some 8, .assign (.tmp 50), none, 1023⟩] false) (.seq (.region [⟨some 51, .move (.tmp 8), none, 0⟩, ⟨some 52, .eq true (.num) (.tmp 51) (.val (.int .i64 0)), none, 1⟩] false) (.cond (.tmp 52) (.seq (.region [⟨some 53, .move (.tmp 8), none, 0⟩, ⟨some 4, .assign (.tmp 53), none, 1⟩] false) (.ret)) (.skip)))) (.seq (.seq (.region [⟨some 54, .move (.tmp 0), none, 0⟩, ⟨some 55, .nilCheck (.tmp 54), none, 1⟩, ⟨some 56, .fieldAddr 0 (.tmp 55), none, 3⟩, ⟨some 57, .load false 1 (.tmp 56), none, 7⟩, ⟨some 58, .call false 19 0 [(.tmp 57)], none, 15⟩, ⟨some 9, .assign (.tmp 58), none, 31⟩] false) (.seq (.region [⟨some 59, .move (.tmp 9), none, 0⟩, ⟨some 60, .eq true (.num) (.tmp 59) (.val (.int .i64 0)), none, 1⟩] false) (.cond (.tmp 60) (.seq (.region [⟨some 61, .move (.tmp 9), none, 0⟩, ⟨some 4, .assign (.tmp 61), none, 1⟩] false) (.ret)) (.skip)))) (.seq (.region [⟨some 62, .move (.tmp 0), none, 0⟩, ⟨some 63, .move (.tmp 0), none, 0⟩, ⟨some 64, .move (.tmp 0), none, 0⟩, ⟨some 65, .move (.tmp 0), none, 0⟩, ⟨some 66, .move (.tmp 0), none, 0⟩, ⟨some 67, .nilCheck (.tmp 66), none, 16⟩, ⟨some 68, .fieldAddr 1 (.tmp 67), none, 48⟩, ⟨some 69, .load false 1 (.tmp 68), none, 112⟩, ⟨some 70, .bin (.sub) (.val (.int .i64 1)) (.tmp 69), none, 240⟩, ⟨some 71, .move (.tmp 7), none, 0⟩, ⟨some 72, .bin (.add) (.tmp 71) (.val (.int .u64 1)), none, 512⟩, ⟨some 73, .move (.tmp 5), none, 0⟩, ⟨some 74, .len (.slc 1) (.tmp 73), none, 2048⟩, ⟨some 75, .call true 63 0 [(.tmp 74)], none, 6144⟩, ⟨some 76, .nilCheck (.tmp 62), none, 14833⟩, ⟨some 77, .fieldAddr 1 (.tmp 76), none, 31217⟩, ⟨none, .store 1 (.tmp 77) (.tmp 70), none, 63985⟩, ⟨some 78, .nilCheck (.tmp 63), none, 131059⟩, ⟨some 79, .fieldAddr 2 (.tmp 78), none, 262131⟩, ⟨none, .store 1 (.tmp 79) (.tmp 72), none, 524275⟩, ⟨some 80, .nilCheck (.tmp 64), none, 1048567⟩, ⟨some 81, .fieldAddr 3 (.tmp 80), none, 2097143⟩, ⟨none, .store 1 (.tmp 81) (.tmp 75), none, 4194295⟩, ⟨some 82, .nilCheck (.tmp 65), none, 8388607⟩, ⟨some 83, .fieldAddr 4 (.tmp 82), none, 16777215⟩, ⟨none, .store 1 (.tmp 83) (.val (.bool true)), none, 33554431⟩] true) (.seq (.region [⟨some 4, .assign (.val (.int .i64 0)), none, 0⟩] false) (.ret)))))))))
abbrev v35 : VFunc := { nparams := 2, ntmps := 84, nsites := 0, results := [.tmp 4], body := b35 }
theorem chunk48_ok {b : List Nat} (hb : ∀ x ∈ b, x < 256) (k : Nat) : (chunk48 b k).length ≤ 48 ∧ ∀ x ∈ chunk48 b k, x < 256 :=
  ⟨by simp [chunk48]; omega, fun x hx => hb x (List.mem_of_mem_drop (List.mem_of_mem_take hx))⟩
theorem pieces_ok {b : List Nat} (hb : ∀ x ∈ b, x < 256) : ∀ c ∈ pieces b, c.length ≤ 48 ∧ ∀ x ∈ c, x < 256 := by
  intro c hc
  obtain ⟨k, _, rfl⟩ := List.mem_map.1 hc
  exact chunk48_ok hb k
theorem putN_pw {es : List (List Nat)} {s r : Nat} (hs : s < 2) : ∀ (cs : List (List Nat)) (a : Nat) (ls : List (Nat × List Nat)) (off : Bool) (left : Int), (∀ c ∈ cs, c.length ≤ 48 ∧ ∀ x ∈ c, x < 256) → a + cs.length ≤ es.length / 2 → PW es ls → LR left → ls.length + cs.length < 2 ^ 40 →
    PW es (putN (es.length / 2) s r a cs (ls, off, left)).2.1 ∧ LR (putN (es.length / 2) s r a cs (ls, off, left)).2.2.2 ∧ (putN (es.length / 2) s r a cs (ls, off, left)).2.1.length ≤ ls.length + cs.length
  | [], a, ls, off, left, _, _, h, hl, _ => ⟨h, hl, by simp [putN]⟩
  | c :: cs, a, ls, off, left, hc, ha, h, hl, hm => by
    simp only [putN]
    cases spO off left
    · simp only [Bool.false_eq_true, if_false]
      simp only [List.length_cons] at ha hm ⊢
      have hi : s * (es.length / 2) + a < es.length := by
        have : s = 0 ∨ s = 1 := by omega
        rcases this with e | e <;> rw [e] <;> omega
      have hcc := hc c (by simp)
      have h' : PW es (ls ++ [(s * (es.length / 2) + a, cellM (mkN r a) c)]) := by
        refine ⟨h.c, fun w hw => ?_, h.n, by simp; omega⟩
        rcases List.mem_append.1 hw with hw | hw
        · exact h.w w hw
        · simp only [List.mem_singleton] at hw; subst hw; exact ⟨hi, cellM_C hcc.1 hcc.2⟩
      obtain ⟨i1, i2, i3⟩ := putN_pw hs cs (a + 1) (ls ++ [(s * (es.length / 2) + a, cellM (mkN r a) c)]) false (spL off left) (fun c hc' => hc c (by simp [hc'])) (by omega) h' (lrL hl) (by simp; omega)
      refine ⟨i1, i2, ?_⟩
      simp only [List.length_append, List.length_singleton] at i3
      omega
    · simp only [if_true]
      exact ⟨h, hl, by simp only [List.length_cons]; omega⟩
theorem putN_err (h s r : Nat) : ∀ (cs : List (List Nat)) (a : Nat) (x : PSt), (putN h s r a cs x).1 = 0 ∨ ((putN h s r a cs x).1 = 72 ∧ (putN h s r a cs x).2.2.1 = true)
  | [], a, x => .inl rfl
  | c :: cs, a, (ls, off, left) => by
    simp only [putN]
    cases spO off left
    · simp only [Bool.false_eq_true, if_false]; exact putN_err h s r cs (a + 1) _
    · simp
abbrev HPut (G : VProg) : Prop := ∀ (s r a : Nat) (b : List Nat) (rs rr ra rb es fz ls off left) (_ : s < 2) (_ : 1 ≤ r ∧ r ≤ 1099511627776) (_ : a + cellsN b.length ≤ es.length / 2) (_ : es.length ≤ 4096) (_ : b.length < 2 ^ 40) (_ : LR left) (_ : ls.length < 2 ^ 31),
    lim G 64 [q0, .int .i64 s, .int .u64 r, .int .i64 a, .isl 0 1 (byN b)] [reelO 1 rs rr ra rb, plateO es fz ls off left] =
      some (.int .i64 (putN (es.length / 2) s r a (pieces b) (ls, off, left)).1, [reelO 1 rs rr ra rb, plateO es fz (putN (es.length / 2) s r a (pieces b) (ls, off, left)).2.1 (putN (es.length / 2) s r a (pieces b) (ls, off, left)).2.2.1 (putN (es.length / 2) s r a (pieces b) (ls, off, left)).2.2.2])
abbrev HFrame (G : VProg) : Prop := ∀ (k : Nat) (_ : k < 256) (body : List Nat) (_ : ∀ x ∈ body, x < 256) (_ : body.length ≤ 65536), lim G 62 [.agg [.int .u8 k, .isl 0 1 (byN body)]] [] = some (.tup [.fsl 0 1 (byN (frameN k body)), .int .i64 0], [])
abbrev HFlush (G : VProg) : Prop := ∀ (es fz ls off left) (_ : ∀ c ∈ es, c.length = 64) (_ : ∀ w ∈ ls, w.1 < es.length ∧ w.2.length = 64) (_ : ls.length < 2 ^ 40) (_ : LR left),
    lim G 19 [q0] [plateO es fz ls off left] = if spO off left then some (.int .i64 72, [plateO es fz ls true left]) else some (.int .i64 0, [plateO (ls.foldl wr es) false [] false (spL off left)])
def beginR (s r a : Nat) (rd : Bool) (body : List Nat) (es : List (List Nat)) (fz : Bool) (ls : List (Nat × List Nat)) (off : Bool) (left : Int) : V × List Obj :=
  let b := frameN 1 body
  let top := topN es ls es.length
  let p := putN (es.length / 2) (1 - s) (top + 1) 0 (pieces b) (ls, off, left)
  if es.length / 2 < cellsN b.length ∨ 1099511627776 ≤ top then (.int .i64 92, [reelO 1 s r a rd, plateO es (fz || decide (0 < es.length)) ls off left])
  else if p.1 ≠ 0 then (.int .i64 72, [reelO 1 s r a false, plateO es true p.2.1 p.2.2.1 p.2.2.2])
  else if spO p.2.2.1 p.2.2.2 then (.int .i64 72, [reelO 1 s r a false, plateO es true p.2.1 true p.2.2.2])
  else (.int .i64 0, [reelO 1 (1 - s) (top + 1) (cellsN b.length) true, plateO (p.2.1.foldl wr es) false [] false (spL p.2.2.1 p.2.2.2)])
theorem frame_bd {k : Nat} {body : List Nat} (hl : body.length ≤ 65536) : (frameN k body).length ≤ 65546 ∧ 8 ≤ (frameN k body).length := by
  have := flen_bd body.length hl
  have e : (frameN k body).length = flen body.length := by rw [frameN_len]; rfl
  omega
theorem frame_byt {k : Nat} (hk : k < 256) {body : List Nat} (hb : ∀ x ∈ body, x < 256) : ∀ x ∈ frameN k body, x < 256 := by
  intro x hx
  rcases List.mem_append.1 hx with hx | hx
  · exact headN_lt hk hb x hx
  · simp only [fourN, List.mem_cons, List.not_mem_nil, or_false] at hx
    omega
section
variable (G : VProg)
theorem rbegin (hG : G 35 = some (.code v35)) (hM : Marks G) (hFr : HFrame G) (hP : HPut G) (hFl : HFlush G)
    (hc : ∀ n : Nat, n < 2 ^ 40 → lim G 63 [.int .i64 n] [] = some (.int .i64 (cellsN n : Nat), []))
    (s r a : Nat) (rd : Bool) (body : List Nat) (es fz ls off left) (hs : s < 2) (hb : ∀ x ∈ body, x < 256) (hl : body.length ≤ 65536) (h : PW es ls) (hlr : LR left) (hls : ls.length < 2 ^ 30) :
    lim G 35 [q0, .isl 0 1 (byN body)] [reelO 1 s r a rd, plateO es fz ls off left] = some (beginR s r a rd body es fz ls off left) := by
  have hn := h.n
  have t1 := hFr 1 (by decide) body hb hl
  have hfb := frame_bd (k := 1) hl
  have hbt := frame_byt (k := 1) (by decide) hb
  have t2 := hM.top es fz ls off left h
  have t3 := hc (frameN 1 body).length (by omega)
  have t4 := hM.room es (fz || decide (0 < es.length)) ls off left (by omega)
  have t5 := fun (hc1 : cellsN (frameN 1 body).length ≤ es.length / 2) (hr1 : topN es ls es.length < 1099511627776) => hP (1 - s) (topN es ls es.length + 1) 0 (frameN 1 body) s r a false es true ls off left (by omega) ⟨by omega, by omega⟩ (by omega) hn (by omega) hlr (by omega)
  have hpw := fun (hc1 : cellsN (frameN 1 body).length ≤ es.length / 2) => putN_pw (es := es) (s := 1 - s) (r := topN es ls es.length + 1) (by omega) (pieces (frameN 1 body)) 0 ls off left (pieces_ok hbt) (by rw [pieces_len]; omega) h hlr (by rw [pieces_len]; omega)
  have herr := putN_err (es.length / 2) (1 - s) (topN es ls es.length + 1) (pieces (frameN 1 body)) 0 (ls, off, left)
  unfold beginR
  simp only
  obtain ⟨fr, hfr⟩ : ∃ fr, fr = frameN 1 body := ⟨_, rfl⟩
  rw [← hfr] at t1 t3 hfb
  simp only [← hfr] at t5 hpw herr ⊢
  obtain ⟨top, htop⟩ : ∃ t, t = topN es ls es.length := ⟨_, rfl⟩
  rw [← htop] at t2
  simp only [← htop] at t5 hpw herr ⊢
  obtain ⟨c, hcd⟩ : ∃ c, c = cellsN fr.length := ⟨_, rfl⟩
  have hc1 : 1 ≤ c := by rw [hcd]; unfold cellsN; omega
  rw [← hcd] at t3
  simp only [← hcd] at t5 hpw ⊢
  have ap := apart_frm fr
  have t1' : lim G 62 [.agg [.int .u8 1, .isl 0 1 (byN body)]] [] = some (.tup [.fsl 0 1 (byN fr), .int .i64 0], []) := t1
  obtain ⟨m, hm⟩ : ∃ m, m = es.length / 2 := ⟨_, rfl⟩
  simp only [← hm] at t4 t5 hpw herr ⊢
  clear t1 hfr hcd hFr hbt
  cases b1 : decide ((m : Int) < (c : Int))
  case true =>
    have k1 : m < c := by simp only [decide_eq_true_eq] at b1; omega
    rw [if_pos (.inl k1)]
    clear t5 hpw herr
    obtain ⟨z, hz⟩ : ∃ z, z = decide (0 < es.length) := ⟨_, rfl⟩
    rw [← hz] at t2 t4 ⊢
    cases fz <;> cases z
    all_goals exact lim_fun hG (h := runV b1 ap trivial)
  have k1 : c ≤ m := by simp only [decide_eq_false_iff_not] at b1; omega
  have hz : decide (0 < es.length) = true := by simp only [decide_eq_true_eq]; omega
  rw [hz] at t2 t4 ⊢
  rw [Bool.or_true] at t2 t4 ⊢
  cases b2 : decide ((1099511627776 : Int) ≤ (top : Int))
  case true =>
    have k2 : 1099511627776 ≤ top := by simp only [decide_eq_true_eq] at b2; omega
    rw [if_pos (.inr k2)]
    clear t5 hpw herr
    cases fz
    all_goals exact lim_fun hG (h := runV (And.intro b1 b2) ap trivial)
  have k2 : top < 1099511627776 := by simp only [decide_eq_false_iff_not] at b2; omega
  rw [if_neg (by omega)]
  have w1 : IntKind.i64.wrap (1 - (s : Int)) = ((1 - s : Nat) : Int) := by rw [wrapi64 _ (by omega) (by omega)]; omega
  have w2 : IntKind.u64.wrap ((top : Int) + 1) = ((top + 1 : Nat) : Int) := wrap64 (top + 1) (by omega)
  replace t5 := t5 k1 k2
  have t5' : lim G 64 [q0, .int .i64 ((1 - s : Nat) : Int), .int .u64 ((top + 1 : Nat) : Int), .int .i64 0, .isl 0 1 (byN fr)] [reelO 1 s r a false, plateO es true ls off left] = _ := t5
  clear t5
  obtain ⟨q1, q2, q3⟩ := hpw k1
  obtain ⟨⟨e, l2, o2, f2⟩, hp⟩ : ∃ x, x = putN m (1 - s) (top + 1) 0 (pieces fr) (ls, off, left) := ⟨_, rfl⟩
  simp only [← hp] at t5' q1 q2 q3 herr ⊢
  have t6 := hFl es true l2 o2 f2 (fun c hc => (q1.c c hc).1) (fun w hw => ⟨(q1.w w hw).1, (q1.w w hw).2.1⟩) q1.m q2
  clear hp hpw q3 hm htop
  obtain ⟨s', hs'⟩ : ∃ s', s' = 1 - s := ⟨_, rfl⟩
  rw [← hs'] at w1 t5' ⊢
  have F := And.intro b1 (And.intro b2 (And.intro w1 w2))
  rcases herr with rfl | ⟨rfl, rfl⟩
  · rw [if_neg (by simp)]
    cases hsp : spO o2 f2
    · rw [hsp] at t6
      simp only [Bool.false_eq_true, if_false] at t6 ⊢
      obtain ⟨e2, he2⟩ : ∃ e2, e2 = l2.foldl wr es := ⟨_, rfl⟩
      rw [← he2] at t6 ⊢
      cases fz
      all_goals exact lim_fun hG (h := runV F ap trivial)
    · rw [hsp] at t6
      simp only [if_true] at t6 ⊢
      cases fz
      all_goals exact lim_fun hG (h := runV F ap trivial)
  · rw [if_pos (by decide)]
    clear t6
    cases fz
    all_goals exact lim_fun hG (h := runV F ap trivial)
end
end P1
end Go.Vq
namespace Go.Vq
namespace P1
open Go
set_option maxRecDepth 1000000
set_option maxHeartbeats 8000000
abbrev b36 : VCode := .seq (.region [⟨some 4, .assign (.val (.int .i64 0)), none, 0⟩] false) (.seq (.seq (.region [⟨some 8, .move (.tmp 0), none, 0⟩, ⟨some 9, .nilCheck (.tmp 8), none, 1⟩, ⟨some 10, .fieldAddr 4 (.tmp 9), none, 3⟩, ⟨some 11, .load false 1 (.tmp 10), none, 7⟩, ⟨some 12, .un (.not) (.tmp 11), none, 15⟩] false) (.cond (.tmp 12) (.seq (.region [⟨some 4, .assign (.val (.int .i64 91)), none, 0⟩] false) (.ret)) (.skip))) (.seq (.region [⟨some 14, .move (.tmp 1), none, 0⟩, ⟨some 15, .build [(.int .u8 0), (.nilS 1)] [(0, 1, (.val (.int .u8 2))), (1, 1, (.tmp 14))], none, 1⟩, ⟨some 16, .call true 62 0 [(.tmp 15)], none, 3⟩, ⟨some 13, .move (.tmp 16), none, 7⟩, ⟨some 17, .extract (.tmp 13) 0, none, 15⟩, ⟨some 18, .extract (.tmp 13) 1, none, 15⟩, ⟨some 5, .assign (.tmp 17), none, 31⟩, ⟨some 6, .assign (.tmp 18), none, 127⟩] false) (.seq (.seq (.region [⟨some 19, .move (.tmp 6), none, 0⟩, ⟨some 20, .eq true (.num) (.tmp 19) (.val (.int .i64 0)), none, 1⟩, ⟨some 21, .move (.tmp 20), none, 3⟩, ⟨some 22, .move (.tmp 5), some (21, false), 7⟩, ⟨some 23, .len (.slc 1) (.tmp 22), some (21, false), 15⟩, ⟨some 24, .call true 63 0 [(.tmp 23)], some (21, false), 31⟩, ⟨some 25, .move (.tmp 0), some (21, false), 7⟩, ⟨some 26, .call false 39 0 [(.tmp 25)], some (21, false), 127⟩, ⟨some 27, .bin (.gtr) (.tmp 24) (.tmp 26), some (21, false), 255⟩, ⟨some 28, .pick (.tmp 21) (.val (.bool true)) (.tmp 27), none, 511⟩] false) (.cond (.tmp 28) (.seq (.region [⟨some 4, .assign (.val (.int .i64 92)), none, 0⟩] false) (.ret)) (.skip))) (.seq (.seq (.region [⟨some 29, .move (.tmp 0), none, 0⟩, ⟨some 30, .move (.tmp 0), none, 0⟩, ⟨some 31, .nilCheck (.tmp 30), none, 2⟩, ⟨some 32, .fieldAddr 1 (.tmp 31), none, 6⟩, ⟨some 33, .load false 1 (.tmp 32), none, 14⟩, ⟨some 34, .move (.tmp 0), none, 0⟩, ⟨some 35, .nilCheck (.tmp 34), none, 32⟩, ⟨some 36, .fieldAddr 2 (.tmp 35), none, 96⟩, ⟨some 37, .load false 1 (.tmp 36), none, 224⟩, ⟨some 38, .move (.tmp 0), none, 0⟩, ⟨some 39, .nilCheck (.tmp 38), none, 512⟩, ⟨some 40, .fieldAddr 3 (.tmp 39), none, 1536⟩, ⟨some 41, .load false 1 (.tmp 40), none, 3584⟩, ⟨some 42, .move (.tmp 5), none, 0⟩, ⟨some 43, .call false 64 0 [(.tmp 29), (.tmp 33), (.tmp 37), (.tmp 41), (.tmp 42)], none, 16383⟩, ⟨some 7, .assign (.tmp 43), none, 32767⟩] true) (.seq (.region [⟨some 44, .move (.tmp 7), none, 0⟩, ⟨some 45, .eq true (.num) (.tmp 44) (.val (.int .i64 0)), none, 1⟩] false) (.cond (.tmp 45) (.seq (.region [⟨some 46, .move (.tmp 0), none, 0⟩, ⟨some 47, .nilCheck (.tmp 46), none, 1⟩, ⟨some 48, .fieldAddr 4 (.tmp 47), none, 3⟩, ⟨none, .store 1 (.tmp 48) (.val (.bool false)), none, 7⟩] false) (.seq (.region [⟨some 49, .move (.tmp 7), none, 0⟩, ⟨some 4, .assign (.tmp 49), none, 1⟩] false) (.ret))) (.skip)))) (.seq (.region [⟨some 50, .move (.tmp 0), none, 0⟩, ⟨some 51, .nilCheck (.tmp 50), none, 1⟩, ⟨some 52, .fieldAddr 3 (.tmp 51), none, 3⟩, ⟨some 53, .load false 1 (.tmp 52), none, 7⟩, ⟨some 54, .move (.tmp 5), none, 0⟩, ⟨some 55, .len (.slc 1) (.tmp 54), none, 16⟩, ⟨some 56, .call true 63 0 [(.tmp 55)], none, 48⟩, ⟨some 57, .bin (.add) (.tmp 53) (.tmp 56), none, 127⟩, ⟨some 58, .nilCheck (.tmp 50), none, 255⟩, ⟨some 59, .fieldAddr 3 (.tmp 58), none, 511⟩, ⟨none, .store 1 (.tmp 59) (.tmp 57), none, 1023⟩] true) (.seq (.region [⟨some 4, .assign (.val (.int .i64 0)), none, 0⟩] false) (.ret)))))))
abbrev v36 : VFunc := { nparams := 2, ntmps := 60, nsites := 0, results := [.tmp 4], body := b36 }
def addR (s r a : Nat) (rd : Bool) (body : List Nat) (es : List (List Nat)) (fz : Bool) (ls : List (Nat × List Nat)) (off : Bool) (left : Int) : V × List Obj :=
  let b := frameN 2 body
  let p := putN (es.length / 2) s r a (pieces b) (ls, off, left)
  if rd = false then (.int .i64 91, [reelO 1 s r a rd, plateO es fz ls off left])
  else if es.length / 2 < a + cellsN b.length then (.int .i64 92, [reelO 1 s r a rd, plateO es fz ls off left])
  else if p.1 ≠ 0 then (.int .i64 72, [reelO 1 s r a false, plateO es fz p.2.1 p.2.2.1 p.2.2.2])
  else (.int .i64 0, [reelO 1 s r (a + cellsN b.length) true, plateO es fz p.2.1 p.2.2.1 p.2.2.2])
section
variable (G : VProg)
theorem radd (hG : G 36 = some (.code v36)) (hFr : HFrame G) (hP : HPut G)
    (hL : ∀ (s r a : Nat) (b : Bool) (es fz ls off left) (_ : es.length < 2 ^ 40) (_ : a < 2 ^ 40), lim G 39 [q0] [reelO 1 s r a b, plateO es fz ls off left] = some (.int .i64 (leftN es.length a b), [reelO 1 s r a b, plateO es fz ls off left]))
    (hc : ∀ n : Nat, n < 2 ^ 40 → lim G 63 [.int .i64 n] [] = some (.int .i64 (cellsN n : Nat), []))
    (s r a : Nat) (rd : Bool) (body : List Nat) (es fz ls off left) (hs : s < 2) (hr : rd = true → 1 ≤ r ∧ r ≤ 1099511627776) (ha : a ≤ 4096) (hb : ∀ x ∈ body, x < 256) (hl : body.length ≤ 65536) (hn : es.length ≤ 4096) (hlr : LR left) (hls : ls.length < 2 ^ 30) :
    lim G 36 [q0, .isl 0 1 (byN body)] [reelO 1 s r a rd, plateO es fz ls off left] = some (addR s r a rd body es fz ls off left) := by
  unfold addR
  simp only
  cases rd
  case false =>
    rw [if_pos rfl]
    cases fz
    all_goals exact lim_fun hG (h := runV trivial trivial trivial)
  rw [if_neg (by simp)]
  have hr' := hr rfl
  have t1 := hFr 2 (by decide) body hb hl
  have hfb := frame_bd (k := 2) hl
  have t3 := hc (frameN 2 body).length (by omega)
  have t4 := hL s r a true es fz ls off left (by omega) (by omega)
  have t5 := fun (hc1 : a + cellsN (frameN 2 body).length ≤ es.length / 2) => hP s r a (frameN 2 body) s r a true es fz ls off left hs hr' hc1 hn (by omega) hlr (by omega)
  have herr := putN_err (es.length / 2) s r (pieces (frameN 2 body)) a (ls, off, left)
  obtain ⟨fr, hfr⟩ : ∃ fr, fr = frameN 2 body := ⟨_, rfl⟩
  rw [← hfr] at t1 t3 hfb
  simp only [← hfr] at t5 herr ⊢
  obtain ⟨c, hcd⟩ : ∃ c, c = cellsN fr.length := ⟨_, rfl⟩
  have hcb : c < 2 ^ 20 := by rw [hcd]; unfold cellsN; omega
  rw [← hcd] at t3
  simp only [← hcd] at t5 ⊢
  have ap := apart_frm fr
  have t1' : lim G 62 [.agg [.int .u8 2, .isl 0 1 (byN body)]] [] = some (.tup [.fsl 0 1 (byN fr), .int .i64 0], []) := t1
  obtain ⟨m, hm⟩ : ∃ m, m = es.length / 2 := ⟨_, rfl⟩
  have e0 : leftN es.length a true = (m : Int) - (a : Int) := by rw [hm]; rfl
  rw [e0] at t4
  simp only [← hm] at t5 herr ⊢
  clear t1 hfr hcd hFr e0 hm
  cases b1 : decide ((m : Int) - (a : Int) < (c : Int))
  case true =>
    have k1 : m < a + c := by simp only [decide_eq_true_eq] at b1; omega
    rw [if_pos k1]
    clear t5 herr
    obtain ⟨d, hd⟩ : ∃ d, d = (m : Int) - (a : Int) := ⟨_, rfl⟩
    rw [← hd] at t4 b1
    cases fz
    all_goals exact lim_fun hG (h := runV b1 ap trivial)
  have k1 : ¬ m < a + c := by simp only [decide_eq_false_iff_not] at b1; omega
  rw [if_neg k1]
  obtain ⟨d, hd⟩ : ∃ d, d = (m : Int) - (a : Int) := ⟨_, rfl⟩
  rw [← hd] at t4 b1
  have w1 : IntKind.i64.wrap ((a : Int) + (c : Int)) = ((a + c : Nat) : Int) := by rw [wrapi64 _ (by omega) (by omega)]; omega
  replace t5 := t5 (by omega)
  obtain ⟨⟨e, l2, o2, f2⟩, hp⟩ : ∃ x, x = putN m s r a (pieces fr) (ls, off, left) := ⟨_, rfl⟩
  simp only [← hp] at t5 herr ⊢
  clear hp hd
  have F := And.intro b1 w1
  rcases herr with rfl | ⟨rfl, rfl⟩
  · rw [if_neg (by simp)]
    cases fz
    all_goals exact lim_fun hG (h := runV F ap trivial)
  · rw [if_pos (by decide)]
    cases fz
    all_goals exact lim_fun hG (h := runV F ap trivial)
end
structure Reel (G : VProg) : Prop where
  new : ∀ n : Int, lim G 13 [.int .i64 n] [] = some (q0, [plateO (List.replicate (max 0 (min n 4096)).toNat zero64) false [] false (-1)])
  opn : ∀ (es fz ls off left) (_ : PW es ls), lim G 34 [q0] [plateO es fz ls off left] = some (openRV (openR es ls).2, [plateO es (fz || decide (0 < es.length / 2)) ls off left, reelO 0 (openR es ls).1 0 0 false])
  beg : ∀ (s r a : Nat) (rd : Bool) (body : List Nat) (es fz ls off left) (_ : s < 2) (_ : ∀ x ∈ body, x < 256) (_ : body.length ≤ 65536) (_ : PW es ls) (_ : LR left) (_ : ls.length < 2 ^ 30),
    lim G 35 [q0, .isl 0 1 (byN body)] [reelO 1 s r a rd, plateO es fz ls off left] = some (beginR s r a rd body es fz ls off left)
  add : ∀ (s r a : Nat) (rd : Bool) (body : List Nat) (es fz ls off left) (_ : s < 2) (_ : rd = true → 1 ≤ r ∧ r ≤ 1099511627776) (_ : a ≤ 4096) (_ : ∀ x ∈ body, x < 256) (_ : body.length ≤ 65536) (_ : es.length ≤ 4096) (_ : LR left) (_ : ls.length < 2 ^ 30),
    lim G 36 [q0, .isl 0 1 (byN body)] [reelO 1 s r a rd, plateO es fz ls off left] = some (addR s r a rd body es fz ls off left)
  flush : ∀ (s r a b es fz ls off left) (_ : ∀ c ∈ es, c.length = 64) (_ : ∀ w ∈ ls, w.1 < es.length ∧ w.2.length = 64) (_ : ls.length < 2 ^ 40) (_ : LR left),
    lim G 37 [q0] [reelO 1 s r a b, plateO es fz ls off left] = if b then (if spO off left then some (.int .i64 72, [reelO 1 s r a false, plateO es fz ls true left]) else some (.int .i64 0, [reelO 1 s r a true, plateO (ls.foldl wr es) false [] false (spL off left)]))
      else some (.int .i64 91, [reelO 1 s r a b, plateO es fz ls off left])
  ready : ∀ (s r a b es fz ls off left), lim G 40 [q0] [reelO 1 s r a b, plateO es fz ls off left] = some (.bool b, [reelO 1 s r a b, plateO es fz ls off left])
  left : ∀ (s r a : Nat) (b : Bool) (es fz ls off left) (_ : es.length < 2 ^ 40) (_ : a < 2 ^ 40), lim G 39 [q0] [reelO 1 s r a b, plateO es fz ls off left] = some (.int .i64 (leftN es.length a b), [reelO 1 s r a b, plateO es fz ls off left])
end P1
end Go.Vq
