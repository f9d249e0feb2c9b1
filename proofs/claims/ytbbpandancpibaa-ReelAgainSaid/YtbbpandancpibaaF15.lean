/- A machine of values and its tie to the model, and runs of it: part 15 of 18 (no law of Go is stated here). -/
import Derived.Test.YtbbpandancpibaaF14
set_option linter.unusedVariables false
set_option linter.unusedSimpArgs false
set_option linter.unusedSectionVars false
namespace Go.Vq
namespace P1
open Go
set_option maxRecDepth 1000000
set_option maxHeartbeats 4000000
abbrev b70 : VCode := .seq (.region [⟨some 2, .assign (.val (.int .u64 0)), none, 0⟩] false) (.seq (.region [⟨some 3, .alloc 0 [(.int .u64 0)], none, 0⟩, ⟨none, .store 1 (.tmp 3) (.val (.int .u64 0)), none, 1⟩] false) (.seq (.seq (.region [⟨some 6, .move (.tmp 0), none, 0⟩, ⟨some 7, .call false 81 1 [(.tmp 6)], none, 1⟩] false) (.block 0 (some [3]) (.range (.tmp 7) [8, 9] 5 (some [3]) (.region [⟨some 5, .assign (.tmp 9), none, 0⟩] false) (.block 1 none (.region [⟨some 10, .load false 1 (.tmp 3), none, 0⟩, ⟨some 11, .bin (.shl) (.tmp 10) (.val (.int .u64 8)), none, 1⟩, ⟨some 12, .move (.tmp 5), none, 0⟩, ⟨some 13, .conv (.int (.u64)) (.tmp 12), none, 4⟩, ⟨some 14, .bin (.or) (.tmp 11) (.tmp 13), none, 15⟩, ⟨none, .store 1 (.tmp 3) (.tmp 14), none, 31⟩] false))))) (.seq (.region [⟨some 15, .load false 1 (.tmp 3), none, 0⟩, ⟨some 2, .assign (.tmp 15), none, 1⟩] false) (.ret))))
abbrev v70 : VFunc := { nparams := 1, ntmps := 16, nsites := 5, results := [.tmp 2], body := b70 }
abbrev b54 : VCode := .seq (.region [⟨some 1, .box 0 64 (.tmp 0), none, 0⟩, ⟨some 2, .assign (.val (.int .u64 0)), none, 0⟩, ⟨some 3, .assign (.val (.int .u64 0)), none, 2⟩] false) (.seq (.region [⟨some 4, .slice (.arr 64) (.tmp 1) none (some (.val (.int .i64 8))) none, none, 0⟩, ⟨some 5, .call true 70 1 [(.tmp 4)], none, 1⟩, ⟨some 6, .slice (.arr 64) (.tmp 1) (some (.val (.int .i64 56))) none none, none, 0⟩, ⟨some 7, .call true 70 1 [(.tmp 6)], none, 7⟩, ⟨some 2, .assign (.tmp 5), none, 15⟩, ⟨some 3, .assign (.tmp 7), none, 31⟩] true) (.ret))
abbrev v54 : VFunc := { nparams := 1, ntmps := 8, nsites := 1, results := [.tmp 2, .tmp 3], body := b54 }
abbrev b48 : VCode := .seq (.region [⟨some 1, .box 0 64 (.tmp 0), none, 0⟩, ⟨some 2, .assign (.val (.int .u64 0)), none, 0⟩] false) (.seq (.region [⟨some 6, .load true 64 (.tmp 1), none, 0⟩, ⟨some 7, .call true 54 1 [(.tmp 6)], none, 1⟩, ⟨some 5, .move (.tmp 7), none, 3⟩, ⟨some 8, .extract (.tmp 5) 0, none, 7⟩, ⟨some 9, .extract (.tmp 5) 1, none, 7⟩, ⟨some 3, .assign (.tmp 8), none, 15⟩, ⟨some 4, .assign (.tmp 9), none, 63⟩] false) (.seq (.seq (.region [⟨some 10, .move (.tmp 3), none, 0⟩, ⟨some 11, .move (.tmp 4), none, 0⟩, ⟨some 12, .eq true (.num) (.tmp 10) (.tmp 11), none, 3⟩] false) (.cond (.tmp 12) (.seq (.region [⟨some 2, .assign (.val (.int .u64 0)), none, 0⟩] false) (.ret)) (.skip))) (.seq (.region [⟨some 13, .move (.tmp 3), none, 0⟩, ⟨some 2, .assign (.tmp 13), none, 1⟩] false) (.ret))))
abbrev v48 : VFunc := { nparams := 1, ntmps := 14, nsites := 1, results := [.tmp 2], body := b48 }
abbrev b50 : VCode := .seq (.region [⟨some 4, .assign (.val (.int .u64 0)), none, 0⟩] false) (.seq (.region [⟨some 5, .move (.tmp 0), none, 0⟩, ⟨some 6, .bin (.shl) (.tmp 5) (.val (.int .u64 16)), none, 1⟩, ⟨some 7, .move (.tmp 1), none, 0⟩, ⟨some 8, .conv (.int (.u64)) (.tmp 7), none, 4⟩, ⟨some 9, .bin (.add) (.tmp 6) (.tmp 8), none, 15⟩, ⟨some 10, .bin (.add) (.tmp 9) (.val (.int .u64 1)), none, 31⟩, ⟨some 4, .assign (.tmp 10), none, 63⟩] false) (.ret))
abbrev v50 : VFunc := { nparams := 2, ntmps := 11, nsites := 0, results := [.tmp 4], body := b50 }
abbrev b28 : VCode := .seq (.region [⟨some 2, .assign (.val (.int .i64 0)), none, 0⟩] false) (.seq (.region [⟨some 3, .move (.tmp 0), none, 0⟩, ⟨some 4, .call false 52 0 [(.tmp 3)], none, 1⟩, ⟨some 5, .bin (.quo) (.tmp 4) (.val (.int .i64 2)), none, 3⟩, ⟨some 2, .assign (.tmp 5), none, 7⟩] false) (.ret))
abbrev v28 : VFunc := { nparams := 1, ntmps := 6, nsites := 0, results := [.tmp 2], body := b28 }
abbrev b49 : VCode := .seq (.region [⟨some 6, .alloc 0 (Z8 64), none, 0⟩] false) (.seq (.region [⟨some 10, .move (.tmp 0), none, 0⟩, ⟨some 11, .move (.tmp 1), none, 0⟩, ⟨some 12, .move (.tmp 0), none, 0⟩, ⟨some 13, .call false 28 1 [(.tmp 12)], none, 4⟩, ⟨some 14, .bin (.mul) (.tmp 11) (.tmp 13), none, 14⟩, ⟨some 15, .move (.tmp 2), none, 0⟩, ⟨some 16, .bin (.add) (.tmp 14) (.tmp 15), none, 62⟩, ⟨some 17, .call false 53 1 [(.tmp 10), (.tmp 16)], none, 127⟩, ⟨some 9, .move (.tmp 17), none, 255⟩, ⟨some 18, .extract (.tmp 9) 0, none, 511⟩, ⟨some 19, .extract (.tmp 9) 1, none, 511⟩, ⟨some 7, .alloc 1 (Z8 64), none, 0⟩, ⟨none, .store 64 (.tmp 7) (.tmp 18), none, 3071⟩, ⟨some 8, .assign (.tmp 19), none, 8191⟩] false) (.seq (.region [⟨some 20, .load true 64 (.tmp 7), none, 0⟩, ⟨none, .store 64 (.tmp 6) (.tmp 20), none, 1⟩] false) (.ret)))
abbrev v49 : VFunc := { nparams := 3, ntmps := 21, nsites := 2, results := [.cell 6 true 64], body := b49 }
abbrev b81 : VCode := .seq (.region [⟨some 1, .ibox 0 1 (.tmp 0), none, 0⟩, ⟨some 2, .assign (.val .nilf), none, 0⟩] false) (.seq (.region [⟨some 3, .makeFunc 88 [(.tmp 1)], none, 0⟩, ⟨some 2, .assign (.tmp 3), none, 1⟩] false) (.ret))
abbrev v81 : VFunc := { nparams := 1, ntmps := 4, nsites := 1, results := [.tmp 2], body := b81 }
def leN (l : List Nat) : Nat := l.foldr (fun x n => n * 256 + x) 0
theorem leN_lt : ∀ (l : List Nat), (∀ x ∈ l, x < 256) → leN l < 256 ^ l.length
  | [], _ => by decide
  | x :: l, h => by
    have := leN_lt l fun y hy => h y (by simp [hy])
    have hx := h x (by simp)
    show leN l * 256 + x < 256 ^ (l.length + 1)
    rw [Nat.pow_succ]
    omega
theorem shor (n x : Nat) (hn : n < 2 ^ 56) (hx : x < 256) : IntKind.u64.wrap (BitVec.ofInt IntKind.u64.bits ((n * 256 : Nat) : Int) ||| BitVec.ofInt IntKind.u64.bits (x : Int)).toNat = ((n * 256 + x : Nat) : Int) := by
  have e : (BitVec.ofInt 64 ((n * 256 : Nat) : Int) ||| BitVec.ofInt 64 (x : Int)).toNat = n * 256 + x := by
    rw [orN _ _ (by omega) (by omega), Nat.mul_comm n 256, show (256 : Nat) = 2 ^ 8 from rfl, Nat.two_pow_add_eq_or_of_lt (by omega)]
  have : IntKind.u64.wrap (((BitVec.ofInt 64 ((n * 256 : Nat) : Int) ||| BitVec.ofInt 64 (x : Int)).toNat : Nat) : Int) = ((n * 256 + x : Nat) : Int) := by rw [e]; exact wrap64 _ (by omega)
  exact this
section
variable (G : VProg)
theorem backB (hG : G 81 = some (.code v81)) (es : List V) : lim G 81 [.isl 0 1 es] [] = some (.func 88 [.iptr [.isl 0 1 es]], []) :=
  lim_fun hG (h := runV trivial trivial trivial)
def SNu (n : Nat) : St := ⟨(.gone 0 :: .gone 0 :: .gone 0 :: .ptr (.obj 0 0) :: .gone 0 :: .gone 0 :: .gone 0 :: .gone 0 :: .gone 0 :: .gone 0 :: .gone 0 :: .gone 0 :: .gone 0 :: .gone 0 :: .gone 0 :: .gone 0 :: []), [some (.cells [.int .u64 n]), none, none, none, none]⟩
theorem number8 (hG : G 70 = some (.code v70)) (hI : G 88 = some (.iter (backwardI false 1)))
    (hB : ∀ (es : List V), lim G 81 [.isl 0 1 es] [] = some (.func 88 [.iptr [.isl 0 1 es]], []))
    (l : List Nat) (hl : l.length = 8) (hb : ∀ x ∈ l, x < 256) : lim G 70 [.isl 0 1 (byN l)] [] = some (.int .u64 (leN l), []) := by
  have g2 := hB (byN l)
  refine lim_fun hG (h := runV trivial trivial ?_)
  refine Vq.W_range (g := 88) (caps := [.iptr [.isl 0 1 (byN l)]]) (bs := [[.isl 0 1 (byN l)]]) (base := 0) (site := 5) rfl rfl (xs := (idxV ((byN l).map (fixE false))).reverse) ?_ (fun k => SNu (leN (l.drop (8 - k)))) (fun k => k ≤ 8) (by omega) ?_ (fun k hk hI => ?_) (fun hI => ?_)
  · simp only [itersOf, hI, backwardI]
    rw [if_pos ⟨trivial, by rw [byN_len]; omega⟩]
    rfl
  · rw [show l.drop (8 - 0) = [] from List.drop_of_length_le (by omega)]
    kernel_rfl
  · have hk' : k < 8 := by simpa [idxV, byN_len, hl] using hk
    have hj : 7 - k < l.length := by omega
    obtain ⟨x, hx⟩ : ∃ x, x = l[7 - k] := ⟨_, rfl⟩
    have hx2 : x < 256 := by rw [hx]; exact hb _ (List.getElem_mem _)
    have hd : l.drop (8 - (k + 1)) = x :: l.drop (8 - k) := by
      rw [show 8 - (k + 1) = 7 - k by omega, List.drop_eq_getElem_cons hj, hx, show 7 - k + 1 = 8 - k by omega]
    have hxs : ((idxV ((byN l).map (fixE false))).reverse)[k] = [.int .i64 ((7 - k : Nat) : Int), .int .u8 (x : Int)] := by
      rw [List.getElem_reverse]
      simp only [idxV, List.length_map, List.length_zipIdx, byN_len, hl, List.getElem_map, List.getElem_zipIdx, fixE, byN, hx]
      have e : 8 - 1 - k = 7 - k := by omega
      simp only [e, Nat.zero_add]
      rfl
    have hlt : leN (l.drop (8 - k)) < 2 ^ 56 := by
      have := leN_lt (l.drop (8 - k)) fun y hy => hb y (List.mem_of_mem_drop hy)
      have h2 : 256 ^ (l.drop (8 - k)).length ≤ 256 ^ 7 := Nat.pow_le_pow_right (by decide) (by simp; omega)
      have h3 : (256 : Nat) ^ 7 = 2 ^ 56 := by decide
      omega
    rw [hxs, hd]
    have hleN : leN (x :: l.drop (8 - k)) = leN (l.drop (8 - k)) * 256 + x := rfl
    rw [hleN]
    obtain ⟨n, hn⟩ : ∃ n, n = leN (l.drop (8 - k)) := ⟨_, rfl⟩
    rw [← hn] at hlt ⊢
    have hshl : IntKind.u64.wrap ((n : Int) * 2 ^ min 8 IntKind.u64.bits) = ((n * 256 : Nat) : Int) := by
      have : (n : Int) * 2 ^ min 8 IntKind.u64.bits = ((n * 256 : Nat) : Int) := by
        show (n : Int) * 256 = _
        omega
      rw [this]; exact wrap64 _ (by omega)
    have hor := shor n x hlt hx2
    have hc : IntKind.u64.wrap (x : Int) = (x : Int) := wrap64 _ (by omega)
    unfold SNu setPs
    simp only [List.zip_cons_cons, List.zip_nil_right, List.foldl_cons, List.foldl_nil, List.set_cons_succ, List.set_cons_zero]
    refine runV (And.intro hshl (And.intro hor hc)) trivial ?_
    refine QsN_n ?_
    refine runV (And.intro hshl (And.intro hor hc)) trivial ?_
    exact Qi_n (by kernel_rfl) (by omega)
  · have e : ((idxV ((byN l).map (fixE false))).reverse).length = 8 := by simp [idxV, byN_len, hl]
    rw [e, Nat.sub_self, List.drop_zero]
    refine Qb_n (σ1 := SNu (leN l)) (by kernel_rfl) ?_
    unfold SNu
    exact runV trivial trivial trivial
end
end P1
end Go.Vq
namespace Go.Vq
namespace P1
open Go
set_option maxRecDepth 1000000
set_option maxHeartbeats 4000000
def C64 (c : List Nat) : Prop := c.length = 64 ∧ ∀ x ∈ c, x < 256
def endA (c : List Nat) : Nat := leN (c.take 8)
def endB (c : List Nat) : Nat := leN (c.drop 56)
theorem endA_lt {c : List Nat} (h : C64 c) : endA c < 2 ^ 64 := by
  have := leN_lt (c.take 8) fun y hy => h.2 y (List.mem_of_mem_take hy)
  have h2 : (c.take 8).length = 8 := by simp [h.1]
  rw [h2] at this
  exact this
def markN (c : List Nat) : Nat := if endA c = endB c then endA c else 0
theorem markN_lt {c : List Nat} (h : C64 c) : markN c < 2 ^ 64 := by
  have := endA_lt h
  unfold markN
  split <;> omega
section
variable (G : VProg)
theorem ends (hG : G 54 = some (.code v54)) (hN : ∀ l : List Nat, l.length = 8 → (∀ x ∈ l, x < 256) → lim G 70 [.isl 0 1 (byN l)] [] = some (.int .u64 (leN l), []))
    (c : List Nat) (h : C64 c) : lim G 54 [cellV c] [] = some (.tup [.int .u64 (endA c : Nat), .int .u64 (endB c : Nat)], []) := by
  obtain ⟨hc, hb⟩ := h
  have g1 := hN (c.take 8) (by simp [hc]) (fun y hy => hb y (List.mem_of_mem_take hy))
  have g2 := hN (c.drop 56) (by simp [hc]) (fun y hy => hb y (List.mem_of_mem_drop hy))
  unfold endA endB
  have d2 : List.take 8 (List.drop 56 c) = List.drop 56 c := List.take_of_length_le (by simp [hc])
  have d1 : List.take 8 (List.drop 56 (byN c)) = byN (List.drop 56 c) := by rw [byN_sub', d2]
  obtain ⟨p, hp⟩ : ∃ p, p = List.drop 56 c := ⟨_, rfl⟩
  obtain ⟨q, hq⟩ : ∃ q, q = List.take 8 c := ⟨_, rfl⟩
  have d0 : List.take 8 (List.drop 0 (byN c)) = byN q := by rw [List.drop_zero, byN_take, hq]
  have d3 : List.take 8 (byN c) = byN q := by rw [byN_take, hq]
  have d4 : List.take 8 c = q := hq.symm
  rw [← hp] at g2 d1 ⊢
  rw [← hq] at g1 ⊢
  exact lim_fun hG (h := runV (And.intro d0 (And.intro d3 (And.intro d4 (And.intro d1 hc)))) trivial trivial)
end
end P1
end Go.Vq
namespace Go.Vq
namespace P1
open Go
set_option maxRecDepth 1000000
set_option maxHeartbeats 4000000
abbrev mkN (r a : Nat) : Nat := r * 65536 + a + 1
section
variable (G : VProg)
theorem marked (hG : G 48 = some (.code v48)) (hE : ∀ c : List Nat, C64 c → lim G 54 [cellV c] [] = some (.tup [.int .u64 (endA c : Nat), .int .u64 (endB c : Nat)], []))
    (c : List Nat) (h : C64 c) : lim G 48 [cellV c] [] = some (.int .u64 (markN c : Nat), []) := by
  have g1 := hE c h
  obtain ⟨hc, hb⟩ := h
  have tc := take_by hc
  unfold markN
  cases e : ((endA c : Int) == (endB c : Int))
  · rw [if_neg (by simp at e; omega)]
    exact lim_fun hG (h := runV (And.intro e (And.intro tc hc)) trivial trivial)
  · rw [if_pos (by simp at e; omega)]
    exact lim_fun hG (h := runV (And.intro e (And.intro tc hc)) trivial trivial)
theorem mark (hG : G 50 = some (.code v50)) (r a : Nat) (hr : r ≤ 2 ^ 40) (ha : a < 2 ^ 30) : lim G 50 [.int .u64 r, .int .i64 a] [] = some (.int .u64 (mkN r a : Nat), []) := by
  have h1 : IntKind.u64.wrap ((r : Int) * 2 ^ min 16 IntKind.u64.bits) = ((r * 65536 : Nat) : Int) := by
    have : (r : Int) * 2 ^ min 16 IntKind.u64.bits = ((r * 65536 : Nat) : Int) := by
      show (r : Int) * 65536 = _
      omega
    rw [this]; exact wrap64 _ (by omega)
  have h2 : IntKind.u64.wrap (a : Int) = (a : Int) := wrap64 _ (by omega)
  have h3 : IntKind.u64.wrap (((r * 65536 : Nat) : Int) + (a : Int)) = ((r * 65536 + a : Nat) : Int) := wrap64 (r * 65536 + a) (by omega)
  have h4 : IntKind.u64.wrap (((r * 65536 + a : Nat) : Int) + 1) = ((r * 65536 + a + 1 : Nat) : Int) := wrap64 (r * 65536 + a + 1) (by omega)
  exact lim_fun hG (h := runV (And.intro h1 (And.intro h2 (And.intro h3 h4))) trivial trivial)
theorem room (hG : G 28 = some (.code v28)) (hL : ∀ es fz ls off left, lim G 52 [q0] [plateO es fz ls off left] = some (.int .i64 es.length, [plateO es fz ls off left]))
    (es fz ls off left) (hn : es.length < 2 ^ 40) : lim G 28 [q0] [plateO es fz ls off left] = some (.int .i64 ((es.length / 2 : Nat) : Int), [plateO es fz ls off left]) := by
  have g1 := hL es fz ls off left
  have hq : IntKind.i64.wrap ((es.length : Int).tdiv 2) = ((es.length / 2 : Nat) : Int) := by
    rw [Int.tdiv_eq_ediv_of_nonneg (by omega), wrapi64 _ (by omega) (by omega)]; rfl
  cases fz
  all_goals exact lim_fun hG (h := runV hq trivial trivial)
theorem mcell (hG : G 49 = some (.code v49)) (hR : ∀ es fz ls off left, es.length < 2 ^ 40 → lim G 28 [q0] [plateO es fz ls off left] = some (.int .i64 ((es.length / 2 : Nat) : Int), [plateO es fz ls off left]))
    (hT : ∀ (i : Int) es fz ls off left, (∀ c ∈ es, c.length = 64) → (∀ w ∈ ls, w.2.length = 64) → ls.length < 2 ^ 40 →
      lim G 53 [q0, .int .i64 i] [plateO es fz ls off left] = some (.tup [cellV (getC es ls i), .int .i64 (if inR i es.length then 0 else 71)], [plateO es (if inR i es.length then true else fz) ls off left]))
    (s a : Nat) (hs : s < 2) (ha : a < 2 ^ 40) (es fz ls off left) (he : ∀ c ∈ es, c.length = 64) (hw : ∀ w ∈ ls, w.2.length = 64) (hn : es.length < 2 ^ 40) (hb : ls.length < 2 ^ 40) (hg : (getC es ls ((s * (es.length / 2) + a : Nat) : Int)).length = 64) :
    lim G 49 [q0, .int .i64 s, .int .i64 a] [plateO es fz ls off left] = some (cellV (getC es ls ((s * (es.length / 2) + a : Nat) : Int)), [plateO es (if inR ((s * (es.length / 2) + a : Nat) : Int) es.length then true else fz) ls off left]) := by
  have g1 := hR es fz ls off left hn
  have g2 := hT ((s * (es.length / 2) + a : Nat) : Int) es fz ls off left he hw hb
  obtain ⟨i, hi⟩ : ∃ i, i = s * (es.length / 2) := ⟨_, rfl⟩
  have hi2 : i < 2 ^ 40 := by
    have : s = 0 ∨ s = 1 := by omega
    rcases this with rfl | rfl <;> omega
  have m1 : IntKind.i64.wrap ((s : Int) * ((es.length / 2 : Nat) : Int)) = (i : Int) := by
    have : (s : Int) * ((es.length / 2 : Nat) : Int) = (i : Int) := by rw [hi, Int.natCast_mul]
    rw [this]; exact wrapi64 _ (by omega) (by omega)
  rw [← hi] at g2 hg ⊢
  have m2 : IntKind.i64.wrap ((i : Int) + (a : Int)) = ((i + a : Nat) : Int) := wrapi64 ((i + a : Nat) : Int) (by omega) (by omega)
  obtain ⟨c, hc⟩ : ∃ c, c = getC es ls ((i + a : Nat) : Int) := ⟨_, rfl⟩
  rw [← hc] at g2 hg ⊢
  have tc := take_by hg
  have dc := drop_by hg
  have rg := regens_gA (n := 63) hg
  obtain ⟨x, hx⟩ : ∃ x, x = (if inR ((i + a : Nat) : Int) es.length then (0 : Int) else 71) := ⟨_, rfl⟩
  obtain ⟨y, hy⟩ : ∃ y, y = (if inR ((i + a : Nat) : Int) es.length then true else fz) := ⟨_, rfl⟩
  rw [← hx, ← hy] at g2
  rw [← hy]
  cases fz <;> cases y
  all_goals
    refine lim_fun hG (h := runV (And.intro m1 (And.intro m2 (cf hg))) (And.intro rg sf) ?_)
    refine Qe_r ?_
    obtain ⟨g, hgg⟩ := exN hg
    rw [hgg]
    show _ = _
    kernel_rfl
end
end P1
end Go.Vq
namespace Go.Vq
namespace P1
open Go
set_option maxRecDepth 1000000
set_option maxHeartbeats 4000000
abbrev b16 : VCode := .seq (.region [⟨some 2, .assign (.val (.int .u64 0)), none, 0⟩] false) (.seq (.region [⟨some 3, .assign (.val (.int .u64 0)), none, 0⟩] false) (.seq (.seq (.region [⟨some 9, .move (.tmp 0), none, 0⟩, ⟨some 10, .call false 52 0 [(.tmp 9)], none, 1⟩, ⟨some 11, .move (.val (.int .i64 0)), none, 0⟩] false) (.block 0 (some [3]) (.loop (some [0, 3, 10, 11]) (.seq (.region [⟨some 12, .bin (.lss) (.tmp 11) (.tmp 10), none, 0⟩] false) (.seq (.cond (.tmp 12) (.skip) (.exit 0)) (.seq (.block 1 none (.seq (.region [⟨some 13, .move (.tmp 11), none, 0⟩, ⟨some 4, .assign (.tmp 13), none, 1⟩] false) (.seq (.region [⟨some 15, .move (.tmp 0), none, 0⟩, ⟨some 16, .move (.tmp 4), none, 0⟩, ⟨some 17, .call false 53 0 [(.tmp 15), (.tmp 16)], none, 3⟩, ⟨some 14, .move (.tmp 17), none, 7⟩, ⟨some 18, .extract (.tmp 14) 0, none, 15⟩, ⟨some 19, .extract (.tmp 14) 1, none, 15⟩, ⟨some 5, .alloc 0 (Z8 64), none, 0⟩, ⟨none, .store 64 (.tmp 5) (.tmp 18), none, 95⟩, ⟨some 6, .assign (.tmp 19), none, 255⟩] false) (.seq (.region [⟨some 21, .load true 64 (.tmp 5), none, 0⟩, ⟨some 22, .call true 54 1 [(.tmp 21)], none, 1⟩, ⟨some 20, .move (.tmp 22), none, 3⟩, ⟨some 23, .extract (.tmp 20) 0, none, 7⟩, ⟨some 24, .extract (.tmp 20) 1, none, 7⟩, ⟨some 7, .assign (.tmp 23), none, 15⟩, ⟨some 8, .assign (.tmp 24), none, 63⟩] false) (.region [⟨some 25, .move (.tmp 3), none, 0⟩, ⟨some 26, .move (.tmp 7), none, 0⟩, ⟨some 27, .bin (.shr) (.tmp 26) (.val (.int .u64 16)), none, 2⟩, ⟨some 28, .move (.tmp 8), none, 0⟩, ⟨some 29, .bin (.shr) (.tmp 28) (.val (.int .u64 16)), none, 8⟩, ⟨some 30, .max [(.tmp 25), (.tmp 27), (.tmp 29)], none, 31⟩, ⟨some 3, .assign (.tmp 30), none, 63⟩] false))))) (.region [⟨some 31, .bin (.add) (.tmp 11) (.val (.int .i64 1)), none, 0⟩, ⟨some 11, .move (.tmp 31), none, 1⟩] false))))))) (.seq (.region [⟨some 32, .move (.tmp 3), none, 0⟩, ⟨some 2, .assign (.tmp 32), none, 1⟩] false) (.ret))))
abbrev v16 : VFunc := { nparams := 1, ntmps := 33, nsites := 1, results := [.tmp 2], body := b16 }
structure PW (es : List (List Nat)) (ls : List (Nat × List Nat)) : Prop where
  c : ∀ c ∈ es, C64 c
  w : ∀ w ∈ ls, w.1 < es.length ∧ C64 w.2
  n : es.length ≤ 4096
  m : ls.length < 2 ^ 40
theorem zero_C : C64 zero64 := ⟨rfl, by intro x hx; simp [zero64] at hx; omega⟩
theorem getC_C {es : List (List Nat)} {ls : List (Nat × List Nat)} (h : PW es ls) (i : Int) : C64 (getC es ls i) := by
  unfold getC
  split
  · rename_i hi
    cases hf : find ls i with
    | some c =>
      unfold find at hf
      obtain ⟨w, hw, rfl⟩ := Option.map_eq_some_iff.1 hf
      exact (h.w w (List.mem_reverse.1 (List.mem_of_find?_eq_some hw))).2
    | none =>
      have hin : i.toNat < es.length := by simp [inR] at hi; omega
      simp only [Option.getD_none, List.getD_eq_getElem?_getD, List.getElem?_eq_getElem hin, Option.getD_some]
      exact h.c _ (List.getElem_mem _)
  · exact zero_C
def max2 (a b : Nat) : Nat := if b > a then b else a
def topN (es : List (List Nat)) (ls : List (Nat × List Nat)) : Nat → Nat
  | 0 => 0
  | i + 1 => max (topN es ls i) (max (endA (getC es ls i) / 65536) (endB (getC es ls i) / 65536))
def STp (es : List (List Nat)) (ls : List (Nat × List Nat)) (off : Bool) (left : Int) (a : Nat × Bool) : St :=
  ⟨(q0 :: .gone 0 :: .gone 0 :: .int .u64 (topN es ls a.1 : Nat) :: .gone 0 :: .gone 0 :: .gone 0 :: .gone 0 :: .gone 0 :: .gone 0 :: .int .i64 es.length :: .int .i64 a.1 :: .gone 0 :: .gone 0 :: .gone 0 :: .gone 0 :: .gone 0 :: .gone 0 :: .gone 0 :: .gone 0 :: .gone 0 :: .gone 0 :: .gone 0 :: .gone 0 :: .gone 0 :: .gone 0 :: .gone 0 :: .gone 0 :: .gone 0 :: .gone 0 :: .gone 0 :: .gone 0 :: .gone 0 :: []), [some (plateO es a.2 ls off left), none]⟩
section
variable (G : VProg)
theorem top (hG : G 16 = some (.code v16)) (hL : ∀ es fz ls off left, lim G 52 [q0] [plateO es fz ls off left] = some (.int .i64 es.length, [plateO es fz ls off left]))
    (hT : ∀ (i : Int) es fz ls off left, (∀ c ∈ es, c.length = 64) → (∀ w ∈ ls, w.2.length = 64) → ls.length < 2 ^ 40 →
      lim G 53 [q0, .int .i64 i] [plateO es fz ls off left] = some (.tup [cellV (getC es ls i), .int .i64 (if inR i es.length then 0 else 71)], [plateO es (if inR i es.length then true else fz) ls off left]))
    (hE : ∀ c : List Nat, C64 c → lim G 54 [cellV c] [] = some (.tup [.int .u64 (endA c : Nat), .int .u64 (endB c : Nat)], []))
    (es fz ls off left) (h : PW es ls) : lim G 16 [q0] [plateO es fz ls off left] = some (.int .u64 (topN es ls es.length : Nat), [plateO es (fz || decide (0 < es.length)) ls off left]) := by
  have g0 := hL es fz ls off left
  have h1 := fun i fz => hT i es fz ls off left (fun c hc => (h.c c hc).1) (fun w hw => (h.w w hw).2.1) h.m
  have hn := h.n
  have key : ∀ (i : Nat) (f : Bool), i < es.length → ∃ u v w : Nat, u = topN es ls i ∧ v = endA (getC es ls i) ∧ w = endB (getC es ls i) ∧ topN es ls (i + 1) = max u (max (v / 65536) (w / 65536)) := fun i f hi => ⟨_, _, _, rfl, rfl, rfl, rfl⟩
  cases fz
  case' false =>
    refine lim_fun hG (h := runV trivial trivial ?_)
    refine WL_loop (STp es ls off left) (fun a => a.1 ≤ es.length ∧ a.2 = (false || decide (0 < a.1))) (fun a => es.length - a.1) ?_ (0, false) _ ⟨Nat.zero_le _, rfl⟩ (by kernel_rfl)
  case' true =>
    refine lim_fun hG (h := runV trivial trivial ?_)
    refine WL_loop (STp es ls off left) (fun a => a.1 ≤ es.length ∧ a.2 = (true || decide (0 < a.1))) (fun a => es.length - a.1) ?_ (0, true) _ ⟨Nat.zero_le _, rfl⟩ (by kernel_rfl)
  all_goals
    rintro ⟨i, f⟩ ⟨hi, hf⟩
    simp only at hi hf
    by_cases hlt : i < es.length
    · have c1 : decide ((i : Int) < (es.length : Int)) = true := by simp; omega
      have c2 := inc64 i (by omega)
      have g1 := h1 (i : Int) f
      have hr : inR (i : Int) es.length = true := by simp [inR]; omega
      rw [hr] at g1
      simp only [if_true] at g1
      obtain ⟨u, v, w, hu, hv, hw, huvw⟩ := key i f hlt
      have hC := getC_C h (i : Int)
      have hl := hC.1
      have g2 := hE _ hC
      unfold STp
      rw [← hv, ← hw] at g2
      simp only [← hu]
      obtain ⟨c, hc⟩ : ∃ c, c = getC es ls (i : Int) := ⟨_, rfl⟩
      rw [← hc] at g1 g2 hl
      obtain ⟨p, hp⟩ : ∃ p, p = v / 65536 := ⟨_, rfl⟩
      obtain ⟨q, hq⟩ : ∃ q, q = w / 65536 := ⟨_, rfl⟩
      have s1 : (v : Int).fdiv (2 ^ min 16 IntKind.u64.bits) = (p : Int) := by rw [hp, Int.fdiv_eq_ediv_of_nonneg _ (by decide)]; rfl
      have s2 : (w : Int).fdiv (2 ^ min 16 IntKind.u64.bits) = (q : Int) := by rw [hq, Int.fdiv_eq_ediv_of_nonneg _ (by decide)]; rfl
      rw [← hp, ← hq] at huvw
      obtain ⟨z, hz⟩ : ∃ z, z = max u (max p q) := ⟨_, rfl⟩
      rw [← hz] at huvw
      have s3 : (if (if (u : Int) < (p : Int) then (p : Int) else (u : Int)) < (q : Int) then (q : Int) else if (u : Int) < (p : Int) then (p : Int) else (u : Int)) = (z : Int) := by rw [hz]; split <;> split at * <;> omega
      have rg := regens_gA (n := 63) hl
      cases f
      all_goals
        refine runV (And.intro c1 (And.intro c2 (And.intro s1 (And.intro s2 (And.intro s3 (cf hl)))))) (And.intro rg sf) ?_
        exact Qr_n (i + 1, true) (by simp only [huvw]; kernel_rfl) ⟨⟨by simp only; omega, by simp⟩, by simp only; omega⟩
    · obtain rfl : i = es.length := by omega
      have c1 : decide ((es.length : Int) < (es.length : Int)) = false := by simp
      rw [← hf]
      obtain ⟨z, hz⟩ : ∃ z, z = topN es ls es.length := ⟨_, rfl⟩
      unfold STp
      simp only [← hz]
      cases f
      case false =>
        refine runV c1 trivial ?_
        refine Qr_x ?_
        refine Qb_x (σ1 := ⟨(.gone 0 :: .gone 0 :: .gone 0 :: .int .u64 z :: .gone 0 :: .gone 0 :: .gone 0 :: .gone 0 :: .gone 0 :: .gone 0 :: .gone 0 :: .gone 0 :: .gone 0 :: .gone 0 :: .gone 0 :: .gone 0 :: .gone 0 :: .gone 0 :: .gone 0 :: .gone 0 :: .gone 0 :: .gone 0 :: .gone 0 :: .gone 0 :: .gone 0 :: .gone 0 :: .gone 0 :: .gone 0 :: .gone 0 :: .gone 0 :: .gone 0 :: .gone 0 :: .gone 0 :: []), [some (plateO es false ls off left), none]⟩) (by kernel_rfl) ?_
        exact runV trivial trivial trivial
      case true =>
        refine runV c1 trivial ?_
        refine Qr_x ?_
        refine Qb_x (σ1 := ⟨(.gone 0 :: .gone 0 :: .gone 0 :: .int .u64 z :: .gone 0 :: .gone 0 :: .gone 0 :: .gone 0 :: .gone 0 :: .gone 0 :: .gone 0 :: .gone 0 :: .gone 0 :: .gone 0 :: .gone 0 :: .gone 0 :: .gone 0 :: .gone 0 :: .gone 0 :: .gone 0 :: .gone 0 :: .gone 0 :: .gone 0 :: .gone 0 :: .gone 0 :: .gone 0 :: .gone 0 :: .gone 0 :: .gone 0 :: .gone 0 :: .gone 0 :: .gone 0 :: .gone 0 :: []), [some (plateO es true ls off left), none]⟩) (by kernel_rfl) ?_
        exact runV trivial trivial trivial
end
end P1
end Go.Vq
