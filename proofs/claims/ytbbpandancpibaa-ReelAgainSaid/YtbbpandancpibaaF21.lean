/- A machine of values and its tie to the model, and runs of it: part 21 of 18 (no law of Go is stated here). -/
import Derived.Test.YtbbpandancpibaaF20
set_option linter.unusedVariables false
set_option linter.unusedSimpArgs false
set_option linter.unusedSectionVars false
namespace Go.Vq
namespace P1
open Go
set_option maxRecDepth 1000000
set_option maxHeartbeats 8000000
abbrev b64 : VCode := .seq (.region [⟨some 5, .box 0 1 (.tmp 0), none, 0⟩, ⟨some 6, .box 1 1 (.tmp 1), none, 0⟩, ⟨some 7, .box 2 1 (.tmp 2), none, 0⟩, ⟨some 8, .box 3 1 (.tmp 3), none, 0⟩, ⟨some 10, .alloc 4 [(.int .i64 0)], none, 0⟩] false) (.seq (.seq (.region [⟨some 13, .move (.tmp 4), none, 0⟩, ⟨some 14, .call false 75 5 [(.tmp 13), (.val (.int .i64 48))], none, 1⟩] false) (.block 0 (some [10]) (.range (.tmp 14) [15] 9 (some [5, 6, 7, 8, 10]) (.region [⟨some 11, .assign (.tmp 15), none, 0⟩] false) (.block 1 none (.seq (.seq (.region [⟨some 16, .load false 1 (.tmp 5), none, 0⟩, ⟨some 17, .nilCheck (.tmp 16), none, 1⟩, ⟨some 18, .fieldAddr 0 (.tmp 17), none, 3⟩, ⟨some 19, .load false 1 (.tmp 18), none, 7⟩, ⟨some 20, .load false 1 (.tmp 6), none, 0⟩, ⟨some 21, .load false 1 (.tmp 7), none, 0⟩, ⟨some 22, .load false 1 (.tmp 8), none, 0⟩, ⟨some 23, .move (.tmp 11), none, 0⟩, ⟨some 24, .call false 15 0 [(.tmp 19), (.tmp 20), (.tmp 21), (.tmp 22), (.tmp 23)], none, 255⟩, ⟨some 12, .assign (.tmp 24), none, 511⟩] true) (.seq (.region [⟨some 25, .move (.tmp 12), none, 0⟩, ⟨some 26, .eq true (.num) (.tmp 25) (.val (.int .i64 0)), none, 1⟩] false) (.cond (.tmp 26) (.seq (.region [⟨some 27, .move (.tmp 12), none, 0⟩, ⟨none, .store 1 (.tmp 10) (.tmp 27), none, 1⟩] false) (.ret)) (.skip)))) (.region [⟨some 28, .load false 1 (.tmp 8), none, 0⟩, ⟨some 29, .bin (.add) (.tmp 28) (.val (.int .i64 1)), none, 1⟩, ⟨none, .store 1 (.tmp 8) (.tmp 29), none, 3⟩] false)))))) (.seq (.region [⟨none, .store 1 (.tmp 10) (.val (.int .i64 0)), none, 0⟩] false) (.ret)))
abbrev v64 : VFunc := { nparams := 5, ntmps := 30, nsites := 9, results := [.cell 10 false 1], body := b64 }
abbrev b75 : VCode := .seq (.region [⟨some 2, .ibox 0 1 (.tmp 0), none, 0⟩, ⟨some 3, .ibox 1 1 (.tmp 1), none, 0⟩, ⟨some 4, .assign (.val .nilf), none, 0⟩] false) (.seq (.seq (.region [⟨some 5, .load false 1 (.tmp 3), none, 0⟩, ⟨some 6, .bin (.lss) (.tmp 5) (.val (.int .i64 1)), none, 1⟩] false) (.cond (.tmp 6) (.region [⟨some 7, .iface 9 (.val (.str [99, 97, 110, 110, 111, 116, 32, 98, 101, 32, 108, 101, 115, 115, 32, 116, 104, 97, 110, 32, 49])), none, 0⟩, ⟨none, .stuck, none, 1⟩] false) (.skip))) (.seq (.region [⟨some 8, .makeFunc 85 [(.tmp 2), (.tmp 3)], none, 0⟩, ⟨some 4, .assign (.tmp 8), none, 1⟩] false) (.ret)))
abbrev v75 : VFunc := { nparams := 2, ntmps := 9, nsites := 2, results := [.tmp 4], body := b75 }
def chunk48 (b : List Nat) (k : Nat) : List Nat := (b.drop (k * 48)).take 48
abbrev PSt := List (Nat × List Nat) × Bool × Int
def putN (h s r a : Nat) : List (List Nat) → PSt → Int × PSt
  | [], x => (0, x)
  | c :: cs, (ls, off, left) => if spO off left then (72, ls, true, left) else putN h s r (a + 1) cs (ls ++ [(s * h + a, cellM (mkN r a) c)], false, spL off left)
def pieces (b : List Nat) : List (List Nat) := (List.range (cellsN b.length)).map (chunk48 b)
theorem pieces_len (b : List Nat) : (pieces b).length = cellsN b.length := by simp [pieces]
theorem pieces_drop (b : List Nat) (k : Nat) (h : k < cellsN b.length) : (pieces b).drop k = chunk48 b k :: (pieces b).drop (k + 1) := by
  rw [List.drop_eq_getElem_cons (by rw [pieces_len]; exact h)]
  simp [pieces]
def preN (h s r a : Nat) (b : List Nat) (x : PSt) : Nat → PSt
  | 0 => x
  | k + 1 => ((preN h s r a b x k).1 ++ [(s * h + (a + k), cellM (mkN r (a + k)) (chunk48 b k))], false, spL (preN h s r a b x k).2.1 (preN h s r a b x k).2.2)
def SPt (b : List Nat) (s r a : Nat) (rs rr ra : Nat) (rb : Bool) (es : List (List Nat)) (fz : Bool) (x : PSt) (k : Nat) : St :=
  ⟨(.gone 0 :: .gone 0 :: .gone 0 :: .gone 0 :: .gone 0 :: .ptr (.obj 2 0) :: .ptr (.obj 3 0) :: .ptr (.obj 4 0) :: .ptr (.obj 5 0) :: .gone 0 :: .ptr (.obj 6 0) :: .gone 0 :: .gone 0 :: .gone 0 :: .gone 0 :: .gone 0 :: .gone 0 :: .gone 0 :: .gone 0 :: .gone 0 :: .gone 0 :: .gone 0 :: .gone 0 :: .gone 0 :: .gone 0 :: .gone 0 :: .gone 0 :: .gone 0 :: .gone 0 :: .gone 0 :: []), [some (reelO 1 rs rr ra rb), some (plateO es fz x.1 x.2.1 x.2.2), some (.cells [q0]), some (.cells [.int .i64 (s : Int)]), some (.cells [.int .u64 (r : Int)]), some (.cells [.int .i64 ((a + k : Nat) : Int)]), some (.cells [.int .i64 0]), none, none, none, none]⟩
theorem lrL {off : Bool} {left : Int} (h : LR left) : LR (spL off left) := by
  obtain ⟨h1, h2⟩ := h
  unfold spL LR
  split
  · omega
  · split <;> omega
section
variable (G : VProg)
theorem chunkC (hG : G 75 = some (.code v75)) (es : List V) (n : Nat) (hn : 1 ≤ n) : lim G 75 [.isl 0 1 es, .int .i64 n] [] = some (.func 85 [.iptr [.isl 0 1 es], .iptr [.int .i64 n]], []) := by
  have c1 : decide ((n : Int) < 1) = false := by simp; omega
  exact lim_fun hG (h := runV c1 trivial trivial)
theorem rputR (hG : G 64 = some (.code v64)) (hI : G 85 = some (.iter (chunkI 1)))
    (hC : ∀ (es : List V) (n : Nat), 1 ≤ n → lim G 75 [.isl 0 1 es, .int .i64 n] [] = some (.func 85 [.iptr [.isl 0 1 es], .iptr [.int .i64 n]], []))
    (hM : Marks G) (s r a : Nat) (b : List Nat) (rs rr ra rb es fz ls off left) (hs : s < 2) (hr : 1 ≤ r ∧ r ≤ 1099511627776) (ha : a + cellsN b.length ≤ es.length / 2) (hn : es.length ≤ 4096) (hb : b.length < 2 ^ 40) (hl : LR left) (hls : ls.length < 2 ^ 31) :
    lim G 64 [q0, .int .i64 s, .int .u64 r, .int .i64 a, .isl 0 1 (byN b)] [reelO 1 rs rr ra rb, plateO es fz ls off left] =
      some (.int .i64 (putN (es.length / 2) s r a (pieces b) (ls, off, left)).1, [reelO 1 rs rr ra rb, plateO es fz (putN (es.length / 2) s r a (pieces b) (ls, off, left)).2.1 (putN (es.length / 2) s r a (pieces b) (ls, off, left)).2.2.1 (putN (es.length / 2) s r a (pieces b) (ls, off, left)).2.2.2]) := by
  have t1 := hC (byN b) 48 (by omega)
  have t1' : lim G 75 [.isl 0 1 (byN b), .int .i64 48] [] = some (.func 85 [.iptr [.isl 0 1 (byN b)], .iptr [.int .i64 48]], []) := t1
  obtain ⟨pn, hpn⟩ : ∃ pn, pn = putN (es.length / 2) s r a (pieces b) (ls, off, left) := ⟨_, rfl⟩
  rw [← hpn]
  have hxs : ∀ k (h : k < ((List.range (chunkN (byN b).length 48)).map fun k => [V.isl 0 1 (((byN b).drop (k * 48)).take 48)]).length), ((List.range (chunkN (byN b).length 48)).map fun k => [V.isl 0 1 (((byN b).drop (k * 48)).take 48)])[k] = [.isl 0 1 (byN (chunk48 b k))] := by
    intro k h
    simp only [List.getElem_map, List.getElem_range, chunk48, byN_take, byN_drop]
  have hlen : ((List.range (chunkN (byN b).length 48)).map fun k => [V.isl 0 1 (((byN b).drop (k * 48)).take 48)]).length = cellsN b.length := by
    simp [chunkN, cellsN, byN_len]
  have hN : cellsN b.length ≤ 4096 := by omega
  have hpre : ∀ k, k ≤ cellsN b.length → (preN (es.length / 2) s r a b (ls, off, left) k).1.length = ls.length + k ∧ LR (preN (es.length / 2) s r a b (ls, off, left) k).2.2 := by
    intro k
    induction k with
    | zero => intro _; exact ⟨rfl, hl⟩
    | succ k ih =>
      intro hk
      obtain ⟨i1, i2⟩ := ih (by omega)
      exact ⟨by simp only [preN, List.length_append, i1, List.length_singleton]; omega, lrL i2⟩
  cases fz
  case false =>
    refine lim_fun hG (h := runV trivial trivial ?_)
    refine Vq.W_range (g := 85) (caps := [.iptr [.isl 0 1 (byN b)], .iptr [.int .i64 48]]) (bs := [[.isl 0 1 (byN b)], [.int .i64 48]]) (base := 2) (site := 9) rfl rfl
      (xs := (List.range (chunkN (byN b).length 48)).map fun k => [V.isl 0 1 (((byN b).drop (k * 48)).take 48)]) ?_ (fun k => SPt b s r a rs rr ra rb es false (preN (es.length / 2) s r a b (ls, off, left) k) k)
      (fun k => k ≤ cellsN b.length ∧ pn = putN (es.length / 2) s r (a + k) ((pieces b).drop k) (preN (es.length / 2) s r a b (ls, off, left) k)) ⟨Nat.zero_le _, by rw [hpn]; rfl⟩ ?_ (fun k hk hI => ?_) (fun hI => ?_)
    · simp only [itersOf, hI, chunkI]
      rw [if_pos ⟨trivial, by decide, by decide, by rw [byN_len]; omega⟩]
      rfl
    · kernel_rfl
    · rw [hlen] at hk
      obtain ⟨hk1, hinv⟩ := hI
      obtain ⟨p1, p2⟩ := hpre k hk1
      rw [hxs k (by rw [hlen]; exact hk)]
      rw [pieces_drop b k hk] at hinv
      have hpk : preN (es.length / 2) s r a b (ls, off, left) (k + 1) = ((preN (es.length / 2) s r a b (ls, off, left) k).1 ++ [(s * (es.length / 2) + (a + k), cellM (mkN r (a + k)) (chunk48 b k))], false, spL (preN (es.length / 2) s r a b (ls, off, left) k).2.1 (preN (es.length / 2) s r a b (ls, off, left) k).2.2) := rfl
      rw [hpk]
      obtain ⟨⟨l2, o2, f2⟩, hx⟩ : ∃ x, x = preN (es.length / 2) s r a b (ls, off, left) k := ⟨_, rfl⟩
      rw [← hx] at p1 p2 hinv ⊢
      simp only at p1 p2 hinv ⊢
      have hcl : (chunk48 b k).length ≤ 48 := by simp [chunk48]; omega
      have i1 := inc64 (a + k) (by omega)
      obtain ⟨c, hc⟩ : ∃ c, c = chunk48 b k := ⟨_, rfl⟩
      rw [← hc] at hinv hcl ⊢
      have t2 := hM.put (s : Int) r ((a + k : Nat) : Int) c es false l2 o2 f2 hn p2 (by omega) (by omega)
      rw [if_pos ⟨by omega, by omega, hr.1, hr.2, by omega, by omega, hcl⟩] at t2
      simp only [Int.toNat_natCast] at t2
      have hput : putN (es.length / 2) s r (a + k) (c :: (pieces b).drop (k + 1)) (l2, o2, f2) = if spO o2 f2 then (72, l2, true, f2) else putN (es.length / 2) s r (a + k + 1) ((pieces b).drop (k + 1)) (l2 ++ [(s * (es.length / 2) + (a + k), cellM (mkN r (a + k)) c)], false, spL o2 f2) := rfl
      rw [hput] at hinv
      obtain ⟨w, hw⟩ : ∃ w, w = (s * (es.length / 2) + (a + k), cellM (mkN r (a + k)) c) := ⟨_, rfl⟩
      rw [← hw] at t2 hinv ⊢
      clear hx hput hpk hpre hxs hlen t1 t1' hC hM hw hc
      unfold SPt setPs
      simp only [List.zip_cons_cons, List.zip_nil_right, List.foldl_cons, List.foldl_nil, List.set_cons_succ, List.set_cons_zero]
      refine runV i1 trivial ?_
      refine QsN_n ?_
      cases hsp : spO o2 f2
      · rw [hsp] at t2 hinv
        simp only [Bool.false_eq_true, if_false] at t2 hinv
        refine runV i1 trivial ?_
        exact Qi_n (by kernel_rfl) ⟨by omega, by rw [hinv]; rfl⟩
      · rw [hsp] at t2 hinv
        simp only [if_true] at t2 hinv
        subst hinv
        refine runV i1 trivial ?_
        refine Qi_r (τ := ⟨(.gone 0 :: .gone 0 :: .gone 0 :: .gone 0 :: .gone 0 :: .ptr (.obj 2 0) :: .ptr (.obj 3 0) :: .ptr (.obj 4 0) :: .ptr (.obj 5 0) :: .gone 0 :: .ptr (.obj 6 0) :: .gone 0 :: .gone 0 :: .gone 0 :: .gone 0 :: .gone 0 :: .gone 0 :: .gone 0 :: .gone 0 :: .gone 0 :: .gone 0 :: .gone 0 :: .gone 0 :: .gone 0 :: .gone 0 :: .gone 0 :: .gone 0 :: .gone 0 :: .gone 0 :: .gone 0 :: []), [some (reelO 1 rs rr ra rb), some (plateO es false l2 true f2), some (.cells [q0]), some (.cells [.int .i64 (s : Int)]), some (.cells [.int .u64 (r : Int)]), some (.cells [.int .i64 ((a + k : Nat) : Int)]), some (.cells [.int .i64 72]), none, none, none, none]⟩) (by kernel_rfl) ?_
        exact Qb_r (Qs_r (Qe_r (by kernel_rfl)))
    · rw [hlen] at hI ⊢
      obtain ⟨_, hinv⟩ := hI
      rw [List.drop_of_length_le (by rw [pieces_len]; exact Nat.le_refl _)] at hinv
      have hz : pn = (0, preN (es.length / 2) s r a b (ls, off, left) (cellsN b.length)) := hinv
      rw [hz]
      obtain ⟨⟨l2, o2, f2⟩, hx⟩ : ∃ x, x = preN (es.length / 2) s r a b (ls, off, left) (cellsN b.length) := ⟨_, rfl⟩
      rw [← hx]
      unfold SPt
      refine Qb_n (σ1 := ⟨(.gone 0 :: .gone 0 :: .gone 0 :: .gone 0 :: .gone 0 :: .gone 0 :: .gone 0 :: .gone 0 :: .gone 0 :: .gone 0 :: .ptr (.obj 6 0) :: .gone 0 :: .gone 0 :: .gone 0 :: .gone 0 :: .gone 0 :: .gone 0 :: .gone 0 :: .gone 0 :: .gone 0 :: .gone 0 :: .gone 0 :: .gone 0 :: .gone 0 :: .gone 0 :: .gone 0 :: .gone 0 :: .gone 0 :: .gone 0 :: .gone 0 :: []), [some (reelO 1 rs rr ra rb), some (plateO es false l2 o2 f2), none, none, none, none, some (.cells [.int .i64 0]), none, none, none, none]⟩) (by kernel_rfl) ?_
      exact runV trivial trivial trivial
  case true =>
    refine lim_fun hG (h := runV trivial trivial ?_)
    refine Vq.W_range (g := 85) (caps := [.iptr [.isl 0 1 (byN b)], .iptr [.int .i64 48]]) (bs := [[.isl 0 1 (byN b)], [.int .i64 48]]) (base := 2) (site := 9) rfl rfl
      (xs := (List.range (chunkN (byN b).length 48)).map fun k => [V.isl 0 1 (((byN b).drop (k * 48)).take 48)]) ?_ (fun k => SPt b s r a rs rr ra rb es true (preN (es.length / 2) s r a b (ls, off, left) k) k)
      (fun k => k ≤ cellsN b.length ∧ pn = putN (es.length / 2) s r (a + k) ((pieces b).drop k) (preN (es.length / 2) s r a b (ls, off, left) k)) ⟨Nat.zero_le _, by rw [hpn]; rfl⟩ ?_ (fun k hk hI => ?_) (fun hI => ?_)
    · simp only [itersOf, hI, chunkI]
      rw [if_pos ⟨trivial, by decide, by decide, by rw [byN_len]; omega⟩]
      rfl
    · kernel_rfl
    · rw [hlen] at hk
      obtain ⟨hk1, hinv⟩ := hI
      obtain ⟨p1, p2⟩ := hpre k hk1
      rw [hxs k (by rw [hlen]; exact hk)]
      rw [pieces_drop b k hk] at hinv
      have hpk : preN (es.length / 2) s r a b (ls, off, left) (k + 1) = ((preN (es.length / 2) s r a b (ls, off, left) k).1 ++ [(s * (es.length / 2) + (a + k), cellM (mkN r (a + k)) (chunk48 b k))], false, spL (preN (es.length / 2) s r a b (ls, off, left) k).2.1 (preN (es.length / 2) s r a b (ls, off, left) k).2.2) := rfl
      rw [hpk]
      obtain ⟨⟨l2, o2, f2⟩, hx⟩ : ∃ x, x = preN (es.length / 2) s r a b (ls, off, left) k := ⟨_, rfl⟩
      rw [← hx] at p1 p2 hinv ⊢
      simp only at p1 p2 hinv ⊢
      have hcl : (chunk48 b k).length ≤ 48 := by simp [chunk48]; omega
      have i1 := inc64 (a + k) (by omega)
      obtain ⟨c, hc⟩ : ∃ c, c = chunk48 b k := ⟨_, rfl⟩
      rw [← hc] at hinv hcl ⊢
      have t2 := hM.put (s : Int) r ((a + k : Nat) : Int) c es true l2 o2 f2 hn p2 (by omega) (by omega)
      rw [if_pos ⟨by omega, by omega, hr.1, hr.2, by omega, by omega, hcl⟩] at t2
      simp only [Int.toNat_natCast] at t2
      have hput : putN (es.length / 2) s r (a + k) (c :: (pieces b).drop (k + 1)) (l2, o2, f2) = if spO o2 f2 then (72, l2, true, f2) else putN (es.length / 2) s r (a + k + 1) ((pieces b).drop (k + 1)) (l2 ++ [(s * (es.length / 2) + (a + k), cellM (mkN r (a + k)) c)], false, spL o2 f2) := rfl
      rw [hput] at hinv
      obtain ⟨w, hw⟩ : ∃ w, w = (s * (es.length / 2) + (a + k), cellM (mkN r (a + k)) c) := ⟨_, rfl⟩
      rw [← hw] at t2 hinv ⊢
      clear hx hput hpk hpre hxs hlen t1 t1' hC hM hw hc
      unfold SPt setPs
      simp only [List.zip_cons_cons, List.zip_nil_right, List.foldl_cons, List.foldl_nil, List.set_cons_succ, List.set_cons_zero]
      refine runV i1 trivial ?_
      refine QsN_n ?_
      cases hsp : spO o2 f2
      · rw [hsp] at t2 hinv
        simp only [Bool.false_eq_true, if_false] at t2 hinv
        refine runV i1 trivial ?_
        exact Qi_n (by kernel_rfl) ⟨by omega, by rw [hinv]; rfl⟩
      · rw [hsp] at t2 hinv
        simp only [if_true] at t2 hinv
        subst hinv
        refine runV i1 trivial ?_
        refine Qi_r (τ := ⟨(.gone 0 :: .gone 0 :: .gone 0 :: .gone 0 :: .gone 0 :: .ptr (.obj 2 0) :: .ptr (.obj 3 0) :: .ptr (.obj 4 0) :: .ptr (.obj 5 0) :: .gone 0 :: .ptr (.obj 6 0) :: .gone 0 :: .gone 0 :: .gone 0 :: .gone 0 :: .gone 0 :: .gone 0 :: .gone 0 :: .gone 0 :: .gone 0 :: .gone 0 :: .gone 0 :: .gone 0 :: .gone 0 :: .gone 0 :: .gone 0 :: .gone 0 :: .gone 0 :: .gone 0 :: .gone 0 :: []), [some (reelO 1 rs rr ra rb), some (plateO es true l2 true f2), some (.cells [q0]), some (.cells [.int .i64 (s : Int)]), some (.cells [.int .u64 (r : Int)]), some (.cells [.int .i64 ((a + k : Nat) : Int)]), some (.cells [.int .i64 72]), none, none, none, none]⟩) (by kernel_rfl) ?_
        exact Qb_r (Qs_r (Qe_r (by kernel_rfl)))
    · rw [hlen] at hI ⊢
      obtain ⟨_, hinv⟩ := hI
      rw [List.drop_of_length_le (by rw [pieces_len]; exact Nat.le_refl _)] at hinv
      have hz : pn = (0, preN (es.length / 2) s r a b (ls, off, left) (cellsN b.length)) := hinv
      rw [hz]
      obtain ⟨⟨l2, o2, f2⟩, hx⟩ : ∃ x, x = preN (es.length / 2) s r a b (ls, off, left) (cellsN b.length) := ⟨_, rfl⟩
      rw [← hx]
      unfold SPt
      refine Qb_n (σ1 := ⟨(.gone 0 :: .gone 0 :: .gone 0 :: .gone 0 :: .gone 0 :: .gone 0 :: .gone 0 :: .gone 0 :: .gone 0 :: .gone 0 :: .ptr (.obj 6 0) :: .gone 0 :: .gone 0 :: .gone 0 :: .gone 0 :: .gone 0 :: .gone 0 :: .gone 0 :: .gone 0 :: .gone 0 :: .gone 0 :: .gone 0 :: .gone 0 :: .gone 0 :: .gone 0 :: .gone 0 :: .gone 0 :: .gone 0 :: .gone 0 :: .gone 0 :: []), [some (reelO 1 rs rr ra rb), some (plateO es true l2 o2 f2), none, none, none, none, some (.cells [.int .i64 0]), none, none, none, none]⟩) (by kernel_rfl) ?_
      exact runV trivial trivial trivial
end
end P1
end Go.Vq
namespace Go.Vq
namespace P1
open Go
set_option maxRecDepth 1000000
set_option maxHeartbeats 8000000
abbrev b61 : VCode := .seq (.region [⟨some 4, .assign (.val (.int .u64 0)), none, 0⟩, ⟨some 5, .assign (.val (.nilS 1)), none, 1⟩] false) (.seq (.region [⟨some 14, .move (.tmp 0), none, 0⟩, ⟨some 15, .move (.tmp 1), none, 0⟩, ⟨some 16, .call false 14 0 [(.tmp 14), (.tmp 15)], none, 3⟩, ⟨some 13, .move (.tmp 16), none, 7⟩, ⟨some 17, .extract (.tmp 13) 0, none, 15⟩, ⟨some 18, .extract (.tmp 13) 1, none, 15⟩, ⟨some 6, .assign (.tmp 17), none, 31⟩, ⟨some 7, .assign (.tmp 18), none, 127⟩] false) (.seq (.region [⟨some 8, .assign (.val (.nilS 1)), none, 0⟩] false) (.seq (.seq (.region [⟨some 9, .assign (.val (.int .u8 1)), none, 0⟩] false) (.block 0 (some [6, 8, 17]) (.loop (some [6, 7, 8, 9, 17, 18, 42, 45]) (.seq (.seq (.region [⟨some 19, .move (.tmp 7), none, 0⟩, ⟨some 20, .len (.slc 1) (.tmp 19), none, 1⟩, ⟨some 21, .bin (.gtr) (.tmp 20) (.val (.int .i64 0)), none, 3⟩] false) (.cond (.tmp 21) (.skip) (.exit 0))) (.seq (.block 1 none (.seq (.region [⟨some 23, .move (.tmp 7), none, 0⟩, ⟨some 24, .call true 72 0 [(.tmp 23)], none, 1⟩, ⟨some 25, .call true 71 0 [(.tmp 24)], none, 3⟩, ⟨some 22, .move (.tmp 25), none, 7⟩, ⟨some 26, .extract (.tmp 22) 0, none, 15⟩, ⟨some 27, .extract (.tmp 22) 1, none, 15⟩, ⟨some 28, .extract (.tmp 22) 2, none, 15⟩, ⟨some 10, .alloc 0 [(.int .u8 0), (.xsl 0 1 [])], none, 0⟩, ⟨none, .store 2 (.tmp 10) (.tmp 26), none, 159⟩, ⟨some 11, .assign (.tmp 27), none, 447⟩, ⟨some 12, .assign (.tmp 28), none, 1023⟩] false) (.seq (.seq (.region [⟨some 29, .move (.tmp 12), none, 0⟩, ⟨some 30, .eq true (.num) (.tmp 29) (.val (.int .i64 0)), none, 1⟩, ⟨some 31, .move (.tmp 30), none, 3⟩, ⟨some 32, .fieldAddr 0 (.tmp 10), some (31, false), 7⟩, ⟨some 33, .load false 1 (.tmp 32), some (31, false), 15⟩, ⟨some 34, .move (.tmp 9), some (31, false), 7⟩, ⟨some 35, .eq true (.num) (.tmp 33) (.tmp 34), some (31, false), 63⟩, ⟨some 36, .pick (.tmp 31) (.val (.bool true)) (.tmp 35), none, 127⟩] false) (.cond (.tmp 36) (.exit 0) (.skip))) (.seq (.region [⟨some 37, .move (.tmp 8), none, 0⟩, ⟨some 38, .fieldAddr 1 (.tmp 10), none, 0⟩, ⟨some 39, .load false 1 (.tmp 38), none, 2⟩, ⟨some 40, .buildSlice 1 [(.isl 0 1 [])] [(0, (.tmp 39))], none, 6⟩, ⟨some 41, .append 1 24 (.tmp 37) (.tmp 40), none, 15⟩, ⟨some 8, .assign (.tmp 41), none, 31⟩] false) (.region [⟨some 42, .move (.tmp 7), none, 0⟩, ⟨some 43, .move (.tmp 11), none, 0⟩, ⟨some 44, .call true 63 1 [(.tmp 43)], none, 2⟩, ⟨some 45, .slice (.slc 1) (.tmp 42) (some (.tmp 44)) none none, none, 7⟩, ⟨some 7, .assign (.tmp 45), none, 15⟩] false))))) (.region [⟨some 9, .assign (.val (.int .u8 2)), none, 0⟩] false)))))) (.seq (.region [⟨some 46, .move (.tmp 6), none, 0⟩, ⟨some 47, .move (.tmp 8), none, 0⟩, ⟨some 4, .assign (.tmp 46), none, 1⟩, ⟨some 5, .assign (.tmp 47), none, 7⟩] false) (.ret)))))
abbrev v61 : VFunc := { nparams := 2, ntmps := 48, nsites := 1, results := [.tmp 4, .tmp 5], body := b61 }
theorem apart_open (r : (Nat × List Nat) × Nat × Nat) : V.apart (openV r) = true := by simp [V.apart, V.leaves, V.cells, byN, V.noslice]
theorem apart_frm (l : List Nat) : V.apart (.tup [.fsl 0 1 (byN l), .int .i64 0]) = true := by simp [V.apart, V.leaves, V.cells, byN, V.noslice]
def openAll : Nat → Nat → List (List Nat) → List (List Nat)
  | 0, _, _ => []
  | f + 1, k, l => if l = [] then [] else
    if (openN l.flatten).2.2 ≠ 0 ∨ (openN l.flatten).1.1 ≠ k then [] else (openN l.flatten).1.2 :: openAll f 2 (l.drop (cellsN (openN l.flatten).2.1))
def sideN (es : List (List Nat)) (ls : List (Nat × List Nat)) (s : Int) : Nat × List (List Nat) := ((readN es ls s).1, openAll (readN es ls s).2.length 1 (readN es ls s).2)
def P48 (l : List (List Nat)) : Prop := ∀ c ∈ l, c.length = 48 ∧ ∀ x ∈ c, x < 256
theorem P48.len {l : List (List Nat)} (h : P48 l) : l.flatten.length = 48 * l.length := by
  induction l with
  | nil => rfl
  | cons c l ih =>
    rw [List.flatten_cons, List.length_append, (h c (by simp)).1, ih fun c hc => h c (by simp [hc])]
    simp only [List.length_cons]; omega
theorem P48.byt {l : List (List Nat)} (h : P48 l) : ∀ x ∈ l.flatten, x < 256 := by
  intro x hx
  obtain ⟨c, hc, hx⟩ := List.mem_flatten.1 hx
  exact (h c hc).2 x hx
theorem P48.drop {l : List (List Nat)} (h : P48 l) (n : Nat) : P48 (l.drop n) := fun c hc => h c (List.mem_of_mem_drop hc)
theorem mid_48 {c : List Nat} (h : C64 c) : (mid c).length = 48 ∧ ∀ x ∈ mid c, x < 256 := by
  refine ⟨by simp [mid, h.1], fun x hx => h.2 x ?_⟩
  exact List.mem_of_mem_drop (List.mem_of_mem_take hx)
theorem rdN_48 {es ls} (h : PW es ls) (i r : Nat) : ∀ k a, P48 (rdN es ls i r a k)
  | 0, a => fun c hc => by simp [rdN] at hc
  | k + 1, a => by
    simp only [rdN]
    split
    · intro c hc
      rcases List.mem_cons.1 hc with rfl | hc
      · exact mid_48 (getC_C h _)
      · exact rdN_48 h i r k (a + 1) c hc
    · intro c hc; simp at hc
theorem readN_48 {es ls} (h : PW es ls) (s : Int) : P48 (readN es ls s).2 := by
  unfold readN
  split
  · intro c hc; simp at hc
  · simp only
    split
    · intro c hc; simp at hc
    · exact rdN_48 h _ _ _ _
theorem rdN_le' (es : List (List Nat)) (ls : List (Nat × List Nat)) (i r : Nat) : ∀ k a, (rdN es ls i r a k).length ≤ k
  | 0, _ => Nat.le_refl _
  | k + 1, a => by
    simp only [rdN]
    split
    · have := rdN_le' es ls i r k (a + 1)
      simp only [List.length_cons]; omega
    · simp
theorem readN_le' (es : List (List Nat)) (ls : List (Nat × List Nat)) (side : Int) : (readN es ls side).2.length ≤ es.length / 2 := by
  unfold readN
  split
  · simp
  · simp only
    split
    · simp
    · exact rdN_le' es ls (side.toNat * (es.length / 2)) (markN (getC es ls ((side.toNat * (es.length / 2) : Nat) : Int)) / 65536) (es.length / 2) 0
theorem open_used {l : List (List Nat)} (h : P48 l) {k : Nat} {body : List Nat} {n : Nat} (ho : openN l.flatten = ((k, body), n, 0)) : cellsN n ≤ l.length ∧ 1 ≤ cellsN n ∧ n ≤ 48 * l.length ∧ body.length ≤ 65536 ∧ k < 256 := by
  obtain ⟨h1, h2, h3, h4, h5⟩ := open_inv _ h.byt _ _ _ ho
  have hl := congrArg List.length h1
  rw [frameN_len, List.length_take, Nat.min_eq_left h3] at hl
  rw [h.len] at h3
  unfold cellsN
  exact ⟨by omega, by omega, h3, h2, h5⟩
theorem openAll_fuel : ∀ (f g k : Nat) (l : List (List Nat)), P48 l → l.length ≤ f → l.length ≤ g → openAll f k l = openAll g k l
  | 0, g, k, l, _, hf, hg => by
    have : l = [] := List.eq_nil_of_length_eq_zero (by omega)
    subst this
    cases g <;> rfl
  | f + 1, 0, k, l, _, hf, hg => by
    have : l = [] := List.eq_nil_of_length_eq_zero (by omega)
    subst this; rfl
  | f + 1, g + 1, k, l, h, hf, hg => by
    simp only [openAll]
    split
    · rfl
    · split
      · rfl
      · rename_i hne hc
        obtain ⟨⟨⟨kk, body⟩, n, e⟩, ho⟩ : ∃ x, x = openN l.flatten := ⟨_, rfl⟩
        rw [← ho] at hc ⊢
        simp only [not_or, Decidable.not_not] at hc
        obtain ⟨rfl, rfl⟩ := hc
        obtain ⟨h1, h2, _⟩ := open_used h ho.symm
        congr 1
        refine openAll_fuel f g 2 _ (h.drop _) ?_ ?_
        all_goals simp only [List.length_drop]; omega
def bodySd : VCode := (.seq (.seq (.region [⟨some 19, .move (.tmp 7), none, 0⟩, ⟨some 20, .len (.slc 1) (.tmp 19), none, 1⟩, ⟨some 21, .bin (.gtr) (.tmp 20) (.val (.int .i64 0)), none, 3⟩] false) (.cond (.tmp 21) (.skip) (.exit 0))) (.seq (.block 1 none (.seq (.region [⟨some 23, .move (.tmp 7), none, 0⟩, ⟨some 24, .call true 72 0 [(.tmp 23)], none, 1⟩, ⟨some 25, .call true 71 0 [(.tmp 24)], none, 3⟩, ⟨some 22, .move (.tmp 25), none, 7⟩, ⟨some 26, .extract (.tmp 22) 0, none, 15⟩, ⟨some 27, .extract (.tmp 22) 1, none, 15⟩, ⟨some 28, .extract (.tmp 22) 2, none, 15⟩, ⟨some 10, .alloc 0 [(.int .u8 0), (.xsl 0 1 [])], none, 0⟩, ⟨none, .store 2 (.tmp 10) (.tmp 26), none, 159⟩, ⟨some 11, .assign (.tmp 27), none, 447⟩, ⟨some 12, .assign (.tmp 28), none, 1023⟩] false) (.seq (.seq (.region [⟨some 29, .move (.tmp 12), none, 0⟩, ⟨some 30, .eq true (.num) (.tmp 29) (.val (.int .i64 0)), none, 1⟩, ⟨some 31, .move (.tmp 30), none, 3⟩, ⟨some 32, .fieldAddr 0 (.tmp 10), some (31, false), 7⟩, ⟨some 33, .load false 1 (.tmp 32), some (31, false), 15⟩, ⟨some 34, .move (.tmp 9), some (31, false), 7⟩, ⟨some 35, .eq true (.num) (.tmp 33) (.tmp 34), some (31, false), 63⟩, ⟨some 36, .pick (.tmp 31) (.val (.bool true)) (.tmp 35), none, 127⟩] false) (.cond (.tmp 36) (.exit 0) (.skip))) (.seq (.region [⟨some 37, .move (.tmp 8), none, 0⟩, ⟨some 38, .fieldAddr 1 (.tmp 10), none, 0⟩, ⟨some 39, .load false 1 (.tmp 38), none, 2⟩, ⟨some 40, .buildSlice 1 [(.isl 0 1 [])] [(0, (.tmp 39))], none, 6⟩, ⟨some 41, .append 1 24 (.tmp 37) (.tmp 40), none, 15⟩, ⟨some 8, .assign (.tmp 41), none, 31⟩] false) (.region [⟨some 42, .move (.tmp 7), none, 0⟩, ⟨some 43, .move (.tmp 11), none, 0⟩, ⟨some 44, .call true 63 1 [(.tmp 43)], none, 2⟩, ⟨some 45, .slice (.slc 1) (.tmp 42) (some (.tmp 44)) none none, none, 7⟩, ⟨some 7, .assign (.tmp 45), none, 15⟩] false))))) (.region [⟨some 9, .assign (.val (.int .u8 2)), none, 0⟩] false)))
def SSd (r : Nat) (es : List (List Nat)) (fz : Bool) (ls : List (Nat × List Nat)) (off : Bool) (left : Int) (a : List (List Nat) × Nat × List (List Nat)) : St :=
  ⟨(.gone 0 :: .gone 0 :: .gone 0 :: .gone 0 :: .gone 0 :: .gone 0 :: .int .u64 r :: .xsl 0 1 (a.2.2.map iB) :: .xsl 0 1 (a.1.map iB) :: .int .u8 (a.2.1 : Int) :: .gone 0 :: .gone 0 :: .gone 0 :: .gone 0 :: .gone 0 :: .gone 0 :: .gone 0 :: .int .u64 r :: .gone 0 :: .gone 0 :: .gone 0 :: .gone 0 :: .gone 0 :: .gone 0 :: .gone 0 :: .gone 0 :: .gone 0 :: .gone 0 :: .gone 0 :: .gone 0 :: .gone 0 :: .gone 0 :: .gone 0 :: .gone 0 :: .gone 0 :: .gone 0 :: .gone 0 :: .gone 0 :: .gone 0 :: .gone 0 :: .gone 0 :: .gone 0 :: .gone 0 :: .gone 0 :: .gone 0 :: .gone 0 :: .gone 0 :: .gone 0 :: []), [some (plateO es fz ls off left), none]⟩
section
variable (G : VProg)
theorem sd_loop (hCc : ∀ (ls : List (List Nat)), ls.length < 2 ^ 40 → ls.flatten.length < 2 ^ 40 → lim G 72 [.isl 0 1 (ls.map iB)] [] = some (.xsl 0 1 (byN ls.flatten), []))
    (hO : ∀ (b : List Nat), (∀ x ∈ b, x < 256) → b.length < 2 ^ 31 → lim G 71 [.isl 0 1 (byN b)] [] = some (openV (openN b), []))
    (hc : ∀ n : Nat, n < 2 ^ 40 → lim G 63 [.int .i64 n] [] = some (.int .i64 (cellsN n : Nat), []))
    (r : Nat) (es fz ls off left) (l : List (List Nat)) (hl : P48 l) (hn : l.length < 2 ^ 20) (σ : St) (hσ : rebase? (some [6, 7, 8, 9, 17, 18, 42, 45]) 1 σ = SSd r es fz ls off left ([], 1, l)) (Q : Out → St → Prop)
    (hQ : ∀ σ', rebase? (some [6, 8, 17]) 1 σ' = ⟨(.gone 0 :: .gone 0 :: .gone 0 :: .gone 0 :: .gone 0 :: .gone 0 :: .int .u64 r :: .gone 0 :: .xsl 0 1 ((openAll l.length 1 l).map iB) :: .gone 0 :: .gone 0 :: .gone 0 :: .gone 0 :: .gone 0 :: .gone 0 :: .gone 0 :: .gone 0 :: .int .u64 r :: .gone 0 :: .gone 0 :: .gone 0 :: .gone 0 :: .gone 0 :: .gone 0 :: .gone 0 :: .gone 0 :: .gone 0 :: .gone 0 :: .gone 0 :: .gone 0 :: .gone 0 :: .gone 0 :: .gone 0 :: .gone 0 :: .gone 0 :: .gone 0 :: .gone 0 :: .gone 0 :: .gone 0 :: .gone 0 :: .gone 0 :: .gone 0 :: .gone 0 :: .gone 0 :: .gone 0 :: .gone 0 :: .gone 0 :: .gone 0 :: []), [some (plateO es fz ls off left), none]⟩ → Q (.exit 0) σ') :
    WL G 1 (.loop (some [6, 7, 8, 9, 17, 18, 42, 45]) bodySd) σ Q := by
  refine WL_loop (SSd r es fz ls off left) (fun a => P48 a.2.2 ∧ a.2.2.length < 2 ^ 20 ∧ a.1.length + a.2.2.length < 2 ^ 21 ∧ a.2.1 < 256 ∧ a.1 ++ openAll a.2.2.length a.2.1 a.2.2 = openAll l.length 1 l) (fun a => a.2.2.length) ?_ ([], 1, l) σ ⟨hl, hn, by simp only [List.length_nil]; omega, by simp only; omega, rfl⟩ hσ
  rintro ⟨out, k, rest⟩ ⟨h1, h2, h3, h4, h5⟩
  simp only at h1 h2 h3 h4 h5
  by_cases hne : rest = []
  · subst hne
    have h5' : out = openAll l.length 1 l := by rw [← h5]; simp [openAll]
    rw [← h5'] at hQ
    clear hσ h5 h5'
    unfold SSd bodySd
    cases fz
    all_goals
      refine runV trivial trivial ?_
      exact Qr_x (hQ _ (by kernel_rfl))
  · have hpos := List.length_pos_iff.2 hne
    have c1 : decide ((0 : Int) < (rest.length : Int)) = true := by simp only [decide_eq_true_eq]; omega
    have hfl := h1.len
    have t1 := hCc rest (by omega) (by omega)
    have t2 := hO rest.flatten h1.byt (by omega)
    obtain ⟨m, hm⟩ : ∃ m, rest.length = m + 1 := ⟨rest.length - 1, by omega⟩
    have hstep : openAll rest.length k rest = if (openN rest.flatten).2.2 ≠ 0 ∨ (openN rest.flatten).1.1 ≠ k then [] else (openN rest.flatten).1.2 :: openAll m 2 (rest.drop (cellsN (openN rest.flatten).2.1)) := by
      rw [hm]; simp only [openAll, if_neg hne]
    rw [hstep] at h5
    have hus : ∀ kk body n, openN rest.flatten = ((kk, body), n, 0) → _ := fun kk body n ho => open_used h1 ho
    obtain ⟨fl, hfld⟩ : ∃ fl, fl = rest.flatten := ⟨_, rfl⟩
    rw [← hfld] at t1 t2 h5 hfl
    simp only [← hfld] at hus
    have hao := apart_open (openN fl)
    have hax := apart_xs fl
    obtain ⟨⟨⟨kk, body⟩, n, e⟩, ho⟩ : ∃ x, x = openN fl := ⟨_, rfl⟩
    simp only [← ho] at t2 h5 hus hao
    clear hstep hfld
    have F0 := And.intro c1 trivial
    cases b1 : ((e : Int) == 0)
    · have ke : e ≠ 0 := by simp only [beq_eq_false_iff_ne, ne_eq] at b1; omega
      rw [if_pos (.inl ke), List.append_nil] at h5
      rw [← h5] at hQ
      clear hσ h5 hus
      unfold SSd bodySd
      cases fz
      all_goals
        refine runV (And.intro b1 F0) (And.intro hao hax) ?_
        exact Qr_x (hQ _ (by kernel_rfl))
    · have ke : e = 0 := by simp only [beq_iff_eq] at b1; omega
      subst ke
      cases b2 : ((kk : Int) == (k : Int))
      · have kk' : kk ≠ k := by simp only [beq_eq_false_iff_ne, ne_eq] at b2; omega
        rw [if_pos (.inr kk'), List.append_nil] at h5
        rw [← h5] at hQ
        clear hσ h5 hus
        unfold SSd bodySd
        cases fz
        all_goals
          refine runV (And.intro b2 F0) (And.intro hao hax) ?_
          exact Qr_x (hQ _ (by kernel_rfl))
      · have kk' : kk = k := by simp only [beq_iff_eq] at b2; omega
        subst kk'
        rw [if_neg (by simp)] at h5
        obtain ⟨u1, u2, u3, u4, u5⟩ := hus kk body n rfl
        have t3 := hc n (by omega)
        obtain ⟨c, hcd⟩ : ∃ c, c = cellsN n := ⟨_, rfl⟩
        rw [← hcd] at t3 u1 u2 h5
        have d1 : List.take (rest.length - c) (List.drop c (List.map iB rest)) = List.map iB (rest.drop c) := by
          rw [← List.map_drop, List.take_of_length_le (by simp)]
        have d2 : (c : Int) ≤ (rest.length : Int) := by omega
        have d3 : c + (rest.length - c) ≤ rest.length := by omega
        have d4 : (out.length + 1) * 24 ≤ 140737488355328 := by omega
        have d5 : out.map iB ++ [iB body] = (out ++ [body]).map iB := by simp
        have hfu := openAll_fuel m (rest.drop c).length 2 (rest.drop c) (h1.drop c) (by simp only [List.length_drop]; omega) (Nat.le_refl _)
        rw [hfu] at h5
        obtain ⟨rest', hrest⟩ : ∃ r', r' = rest.drop c := ⟨_, rfl⟩
        have hrl : rest'.length = rest.length - c := by rw [hrest]; simp
        have hrp : P48 rest' := by rw [hrest]; exact h1.drop c
        rw [← hrest] at d1 h5
        clear hσ hQ hus hfu hrest
        unfold SSd bodySd
        cases fz
        all_goals
          refine runV (And.intro b2 (And.intro d1 (And.intro d5 F0))) (And.intro hao (And.intro hax (And.intro d2 (And.intro d3 d4)))) ?_
          exact Qr_n (out ++ [body], 2, rest') (by kernel_rfl) ⟨⟨hrp, by simp only; omega, by simp only [List.length_append, List.length_singleton]; omega, by simp only; omega, by simp only; rw [List.append_assoc]; exact h5⟩, by simp only; omega⟩
end
end P1
end Go.Vq
namespace Go.Vq
namespace P1
open Go
set_option maxRecDepth 1000000
set_option maxHeartbeats 8000000
section
variable (G : VProg)
theorem rside (hG : G 61 = some (.code v61)) (hM : Marks G)
    (hCc : ∀ (ls : List (List Nat)), ls.length < 2 ^ 40 → ls.flatten.length < 2 ^ 40 → lim G 72 [.isl 0 1 (ls.map iB)] [] = some (.xsl 0 1 (byN ls.flatten), []))
    (hO : ∀ (b : List Nat), (∀ x ∈ b, x < 256) → b.length < 2 ^ 31 → lim G 71 [.isl 0 1 (byN b)] [] = some (openV (openN b), []))
    (hc : ∀ n : Nat, n < 2 ^ 40 → lim G 63 [.int .i64 n] [] = some (.int .i64 (cellsN n : Nat), []))
    (s : Nat) (hs : s < 2) (es fz ls off left) (h : PW es ls) :
    lim G 61 [q0, .int .i64 s] [plateO es fz ls off left] = some (readV (sideN es ls s), [plateO es (fz || decide (0 < es.length / 2)) ls off left]) := by
  have t1 := hM.read (s : Int) es fz ls off left h
  have e1 : decide (0 ≤ (s : Int) ∧ (s : Int) < 2 ∧ 0 < es.length / 2) = decide (0 < es.length / 2) := by rw [decide_eq_decide]; omega
  rw [e1] at t1
  have h48 := readN_48 h (s : Int)
  have hle := readN_le' es ls (s : Int)
  have hn := h.n
  have hfalse : decide (0 < es.length / 2) = false → (readN es ls (s : Int)).2 = [] := by
    intro hf
    have : es.length / 2 = 0 := by simpa using hf
    exact List.eq_nil_of_length_eq_zero (by omega)
  unfold sideN
  obtain ⟨⟨r, l⟩, hr⟩ : ∃ x, x = readN es ls (s : Int) := ⟨_, rfl⟩
  rw [← hr] at t1 h48 hle hfalse ⊢
  simp only at h48 hle hfalse ⊢
  have key := fun fz' => sd_loop G hCc hO hc r es fz' ls off left l h48 (by omega)
  obtain ⟨z, hz⟩ : ∃ z, z = decide (0 < es.length / 2) := ⟨_, rfl⟩
  rw [← hz] at t1 hfalse ⊢
  clear hr hz hle h48 e1 hM
  obtain ⟨out, hout⟩ : ∃ out, out = openAll l.length 1 l := ⟨_, rfl⟩
  simp only [← hout] at key
  rw [← hout]
  cases z
  case true =>
    rw [Bool.or_true] at t1 ⊢
    cases fz
    all_goals
      refine lim_fun hG (h := runV trivial trivial ?_)
      refine key true _ (by kernel_rfl) _ fun σ' hs' => ?_
      refine Qb_x hs' ?_
      refine runV trivial trivial ?_
      exact Qe_r (fin_own2 rfl rfl rfl rfl rfl (by simp) rfl)
  case false =>
    rw [hfalse rfl] at hout t1 key
    have ho : out = [] := by rw [hout]; rfl
    subst ho
    simp only [Bool.or_false] at t1 ⊢
    cases fz
    case true =>
      refine lim_fun hG (h := runV trivial trivial ?_)
      refine key true _ (by kernel_rfl) _ fun σ' hs' => ?_
      refine Qb_x hs' ?_
      exact runV trivial trivial trivial
    case false =>
      refine lim_fun hG (h := runV trivial trivial ?_)
      refine key false _ (by kernel_rfl) _ fun σ' hs' => ?_
      refine Qb_x hs' ?_
      exact runV trivial trivial trivial
end
end P1
end Go.Vq
