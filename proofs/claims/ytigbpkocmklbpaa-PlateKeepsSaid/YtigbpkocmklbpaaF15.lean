/- A machine of values and its tie to the model, and runs of it: part 15 of 14 (no law of Go is stated here). -/
import Derived.Test.YtigbpkocmklbpaaF14
set_option linter.unusedVariables false
set_option linter.unusedSimpArgs false
set_option linter.unusedSectionVars false
namespace Go.Vq
namespace P1
open Go
set_option maxRecDepth 1000000
set_option maxHeartbeats 8000000
section
variable (G : VProg)
def onesN (k : Nat) : List Nat := List.replicate k 255 ++ List.replicate (20 - k) 0
def SK9 (e eF : List (List Nat)) (ls : List (Nat × List Nat)) (cs ss : List (List Nat)) (tb : List Bool) (k : Nat) : St :=
  ⟨(.gone 0 :: .gone 0 :: .gone 0 :: .gone 0 :: .gone 0 :: .gone 0 :: .gone 0 :: .gone 0 :: .gone 0 :: .ptr (.obj 2 0) :: .ptr (.obj 6 0) :: .ptr (.obj 10 0) :: .gone 0 :: .gone 0 :: .ptr (.obj 12 0) :: .gone 0 :: .gone 0 :: .gone 0 :: .ptr (.obj 14 0) :: .gone 0 :: .xsl 0 1 (byN (onesN k)) :: .gone 0 :: .gone 0 :: .gone 0 :: .gone 0 :: .gone 0 :: .gone 0 :: .gone 0 :: .gone 0 :: .gone 0 :: .gone 0 :: .gone 0 :: .gone 0 :: .gone 0 :: .gone 0 :: .gone 0 :: .gone 0 :: .gone 0 :: .gone 0 :: .gone 0 :: .gone 0 :: .gone 0 :: .gone 0 :: .gone 0 :: .gone 0 :: .gone 0 :: .gone 0 :: .gone 0 :: .gone 0 :: .gone 0 :: .gone 0 :: .gone 0 :: .gone 0 :: .gone 0 :: .gone 0 :: .gone 0 :: .gone 0 :: .gone 0 :: .gone 0 :: .gone 0 :: .gone 0 :: .gone 0 :: .gone 0 :: .gone 0 :: .gone 0 :: .gone 0 :: .gone 0 :: .gone 0 :: .gone 0 :: .gone 0 :: .gone 0 :: .gone 0 :: .gone 0 :: .gone 0 :: .gone 0 :: .gone 0 :: .gone 0 :: .gone 0 :: .gone 0 :: .gone 0 :: .gone 0 :: .gone 0 :: .gone 0 :: .gone 0 :: .gone 0 :: .gone 0 :: .gone 0 :: .gone 0 :: .gone 0 :: .gone 0 :: .gone 0 :: .gone 0 :: .gone 0 :: .gone 0 :: .gone 0 :: .gone 0 :: .gone 0 :: .gone 0 :: .gone 0 :: .gone 0 :: .gone 0 :: .gone 0 :: .gone 0 :: .gone 0 :: .gone 0 :: .gone 0 :: .gone 0 :: .gone 0 :: .gone 0 :: .gone 0 :: .gone 0 :: .gone 0 :: .gone 0 :: .gone 0 :: .gone 0 :: .gone 0 :: .gone 0 :: .gone 0 :: .gone 0 :: .gone 0 :: .gone 0 :: .gone 0 :: .gone 0 :: .gone 0 :: .gone 0 :: .gone 0 :: .gone 0 :: .gone 0 :: .gone 0 :: .gone 0 :: .gone 0 :: .gone 0 :: .gone 0 :: .gone 0 :: .gone 0 :: .gone 0 :: .gone 0 :: .gone 0 :: .int .i64 20 :: .int .i64 k :: .gone 0 :: .gone 0 :: .gone 0 :: .gone 0 :: .gone 0 :: .gone 0 :: .gone 0 :: .gone 0 :: .gone 0 :: .gone 0 :: .gone 0 :: .gone 0 :: .gone 0 :: .gone 0 :: .gone 0 :: .gone 0 :: .gone 0 :: .gone 0 :: .gone 0 :: .gone 0 :: .gone 0 :: .gone 0 :: .gone 0 :: .gone 0 :: .gone 0 :: .gone 0 :: .gone 0 :: .gone 0 :: .gone 0 :: .gone 0 :: .gone 0 :: .gone 0 :: .gone 0 :: .gone 0 :: .gone 0 :: .gone 0 :: .gone 0 :: .gone 0 :: .gone 0 :: .gone 0 :: .gone 0 :: .gone 0 :: .gone 0 :: []),
    [none, none, some (plateO eF false [] false (-1)), none, none, none, some (plateO e true ls false (-1)), none, none, none, boolO tb, none, rowO cs, none, rowO ss, none, none]⟩
def SK10 (e eF : List (List Nat)) (ls : List (Nat × List Nat)) (cs ss : List (List Nat)) (tb : List Bool) (os : List Nat) : St :=
  ⟨(.gone 0 :: .gone 0 :: .gone 0 :: .gone 0 :: .gone 0 :: .gone 0 :: .gone 0 :: .gone 0 :: .gone 0 :: .ptr (.obj 2 0) :: .ptr (.obj 6 0) :: .ptr (.obj 10 0) :: .gone 0 :: .gone 0 :: .ptr (.obj 12 0) :: .gone 0 :: .gone 0 :: .gone 0 :: .ptr (.obj 14 0) :: .gone 0 :: .xsl 0 1 (byN os) :: .gone 0 :: .gone 0 :: .gone 0 :: .gone 0 :: .gone 0 :: .gone 0 :: .gone 0 :: .gone 0 :: .gone 0 :: .gone 0 :: .gone 0 :: .gone 0 :: .gone 0 :: .gone 0 :: .gone 0 :: .gone 0 :: .gone 0 :: .gone 0 :: .gone 0 :: .gone 0 :: .gone 0 :: .gone 0 :: .gone 0 :: .gone 0 :: .gone 0 :: .gone 0 :: .gone 0 :: .gone 0 :: .gone 0 :: .gone 0 :: .gone 0 :: .gone 0 :: .gone 0 :: .gone 0 :: .gone 0 :: .gone 0 :: .gone 0 :: .gone 0 :: .gone 0 :: .gone 0 :: .gone 0 :: .gone 0 :: .gone 0 :: .gone 0 :: .gone 0 :: .gone 0 :: .gone 0 :: .gone 0 :: .gone 0 :: .gone 0 :: .gone 0 :: .gone 0 :: .gone 0 :: .gone 0 :: .gone 0 :: .gone 0 :: .gone 0 :: .gone 0 :: .gone 0 :: .gone 0 :: .gone 0 :: .gone 0 :: .gone 0 :: .gone 0 :: .gone 0 :: .gone 0 :: .gone 0 :: .gone 0 :: .gone 0 :: .gone 0 :: .gone 0 :: .gone 0 :: .gone 0 :: .gone 0 :: .gone 0 :: .gone 0 :: .gone 0 :: .gone 0 :: .gone 0 :: .gone 0 :: .gone 0 :: .gone 0 :: .gone 0 :: .gone 0 :: .gone 0 :: .gone 0 :: .gone 0 :: .gone 0 :: .gone 0 :: .gone 0 :: .gone 0 :: .gone 0 :: .gone 0 :: .gone 0 :: .gone 0 :: .gone 0 :: .gone 0 :: .gone 0 :: .gone 0 :: .gone 0 :: .gone 0 :: .gone 0 :: .gone 0 :: .gone 0 :: .gone 0 :: .gone 0 :: .gone 0 :: .gone 0 :: .gone 0 :: .gone 0 :: .gone 0 :: .gone 0 :: .gone 0 :: .gone 0 :: .gone 0 :: .gone 0 :: .gone 0 :: .gone 0 :: .gone 0 :: .gone 0 :: .gone 0 :: .gone 0 :: .gone 0 :: .gone 0 :: .gone 0 :: .gone 0 :: .gone 0 :: .gone 0 :: .gone 0 :: .gone 0 :: .gone 0 :: .gone 0 :: .gone 0 :: .gone 0 :: .gone 0 :: .gone 0 :: .gone 0 :: .gone 0 :: .gone 0 :: .gone 0 :: .gone 0 :: .gone 0 :: .gone 0 :: .gone 0 :: .gone 0 :: .gone 0 :: .gone 0 :: .gone 0 :: .gone 0 :: .gone 0 :: .gone 0 :: .gone 0 :: .gone 0 :: .gone 0 :: .gone 0 :: .gone 0 :: .gone 0 :: .gone 0 :: .gone 0 :: .gone 0 :: .gone 0 :: .gone 0 :: []),
    [none, none, some (plateO eF false [] false (-1)), none, none, none, some (plateO e true ls false (-1)), none, none, none, boolO tb, none, rowO cs, none, rowO ss, none, none]⟩
theorem k5 (kp : List Nat) (t0 t1 : Int) (e e1 eF : List (List Nat)) (ls ls2 : List (Nat × List Nat)) (cs ss : List (List Nat)) (tb : List Bool)
    (tF : lim G 21 [q0, .isl 0 1 (byN kp), .int .i64 t0, .int .i64 t1] [plateO e1 true ls2 false (-1)] = some (.tup [], [plateO eF false [] false (-1)]))
    (hk6 : WL G 0 (tl 16 b3) (SK10 e eF ls cs ss tb (List.replicate 20 255)) (QK G)) :
    WL G 0 (tl 13 b3) (SK8 kp t0 t1 e e1 ls ls2 cs ss tb) (QK G) := by
  unfold SK8
  dsimp only [tl, b3]
  refine runV trivial trivial ?_
  refine WL_loop (fun k => SK9 e eF ls cs ss tb k) (fun k => k ≤ 20) (fun k => 20 - k) ?_ 0 _ (Nat.zero_le _) ((rebaseB_eq [10, 12, 14] (big3 _ _ _ _ _ _ _ _ _ _ _ _)).trans (by kernel_rfl))
  intro k hk
  by_cases hlt : k < 20
  · have d1 : decide ((k : Int) < 20) = true := by simp; omega
    have i1 := inc64 k (by omega)
    have hki : (0 : Int) ≤ (k : Int) ∧ (k : Int) < 20 := by omega
    have e1' : onesN k = List.replicate k 255 ++ 0 :: List.replicate (19 - k) 0 := by
      unfold onesN
      rw [show 20 - k = (19 - k) + 1 by omega, List.replicate_succ]
    have hlen : (onesN k).length = 20 := by simp [onesN]; omega
    have f1 : (byN (onesN k))[k]? = some (.int .u8 0) := by
      rw [e1']
      simp [byN]
    have f2 : (byN (onesN k)).set k (.int .u8 255) = byN (onesN (k + 1)) := by
      rw [e1']
      unfold onesN
      rw [show 20 - (k + 1) = 19 - k by omega, List.replicate_succ']
      simp [byN, List.set_append]
    obtain ⟨os, hos⟩ : ∃ os, os = onesN k := ⟨_, rfl⟩
    rw [← hos] at f1 f2 hlen
    have f4 : (byN os).set k ((V.int .u8 0).setCells 0 [V.int .u8 255]) = byN (onesN (k + 1)) := f2
    have hst : SK9 e eF ls cs ss tb k = ⟨(.gone 0 :: .gone 0 :: .gone 0 :: .gone 0 :: .gone 0 :: .gone 0 :: .gone 0 :: .gone 0 :: .gone 0 :: .ptr (.obj 2 0) :: .ptr (.obj 6 0) :: .ptr (.obj 10 0) :: .gone 0 :: .gone 0 :: .ptr (.obj 12 0) :: .gone 0 :: .gone 0 :: .gone 0 :: .ptr (.obj 14 0) :: .gone 0 :: .xsl 0 1 (byN os) :: .gone 0 :: .gone 0 :: .gone 0 :: .gone 0 :: .gone 0 :: .gone 0 :: .gone 0 :: .gone 0 :: .gone 0 :: .gone 0 :: .gone 0 :: .gone 0 :: .gone 0 :: .gone 0 :: .gone 0 :: .gone 0 :: .gone 0 :: .gone 0 :: .gone 0 :: .gone 0 :: .gone 0 :: .gone 0 :: .gone 0 :: .gone 0 :: .gone 0 :: .gone 0 :: .gone 0 :: .gone 0 :: .gone 0 :: .gone 0 :: .gone 0 :: .gone 0 :: .gone 0 :: .gone 0 :: .gone 0 :: .gone 0 :: .gone 0 :: .gone 0 :: .gone 0 :: .gone 0 :: .gone 0 :: .gone 0 :: .gone 0 :: .gone 0 :: .gone 0 :: .gone 0 :: .gone 0 :: .gone 0 :: .gone 0 :: .gone 0 :: .gone 0 :: .gone 0 :: .gone 0 :: .gone 0 :: .gone 0 :: .gone 0 :: .gone 0 :: .gone 0 :: .gone 0 :: .gone 0 :: .gone 0 :: .gone 0 :: .gone 0 :: .gone 0 :: .gone 0 :: .gone 0 :: .gone 0 :: .gone 0 :: .gone 0 :: .gone 0 :: .gone 0 :: .gone 0 :: .gone 0 :: .gone 0 :: .gone 0 :: .gone 0 :: .gone 0 :: .gone 0 :: .gone 0 :: .gone 0 :: .gone 0 :: .gone 0 :: .gone 0 :: .gone 0 :: .gone 0 :: .gone 0 :: .gone 0 :: .gone 0 :: .gone 0 :: .gone 0 :: .gone 0 :: .gone 0 :: .gone 0 :: .gone 0 :: .gone 0 :: .gone 0 :: .gone 0 :: .gone 0 :: .gone 0 :: .gone 0 :: .gone 0 :: .gone 0 :: .gone 0 :: .gone 0 :: .gone 0 :: .gone 0 :: .gone 0 :: .gone 0 :: .gone 0 :: .gone 0 :: .gone 0 :: .gone 0 :: .gone 0 :: .gone 0 :: .gone 0 :: .gone 0 :: .gone 0 :: .int .i64 20 :: .int .i64 k :: .gone 0 :: .gone 0 :: .gone 0 :: .gone 0 :: .gone 0 :: .gone 0 :: .gone 0 :: .gone 0 :: .gone 0 :: .gone 0 :: .gone 0 :: .gone 0 :: .gone 0 :: .gone 0 :: .gone 0 :: .gone 0 :: .gone 0 :: .gone 0 :: .gone 0 :: .gone 0 :: .gone 0 :: .gone 0 :: .gone 0 :: .gone 0 :: .gone 0 :: .gone 0 :: .gone 0 :: .gone 0 :: .gone 0 :: .gone 0 :: .gone 0 :: .gone 0 :: .gone 0 :: .gone 0 :: .gone 0 :: .gone 0 :: .gone 0 :: .gone 0 :: .gone 0 :: .gone 0 :: .gone 0 :: .gone 0 :: .gone 0 :: []),
      [none, none, some (plateO eF false [] false (-1)), none, none, none, some (plateO e true ls false (-1)), none, none, none, boolO tb, none, rowO cs, none, rowO ss, none, none]⟩ := by rw [hos]; rfl
    rw [hst]
    refine runV (And.intro d1 (And.intro i1 (And.intro hlen f1))) hki ?_
    rw [f4]
    refine Qr_n (k + 1) ?_ ⟨by omega, by omega⟩
    exact (rebaseB_eq [10, 12, 14] (big3 _ _ _ _ _ _ _ _ _ _ _ _)).trans (by kernel_rfl)
  · obtain rfl : k = 20 := by omega
    have d1 : decide (((20 : Nat) : Int) < 20) = false := by decide
    have e20 : onesN 20 = List.replicate 20 255 := by simp [onesN]
    unfold SK9
    rw [e20]
    obtain ⟨os, hos⟩ : ∃ os, os = List.replicate 20 255 := ⟨_, rfl⟩
    rw [← hos] at hk6 ⊢
    refine runV d1 trivial ?_
    refine Qr_x ?_
    refine Qb_x (σ1 := SK10 e eF ls cs ss tb os) ((rebaseB_eq [10, 12, 14] (big3 _ _ _ _ _ _ _ _ _ _ _ _)).trans (by kernel_rfl)) ?_
    exact hk6
end
end P1
end Go.Vq
namespace Go.Vq
namespace P1
open Go
set_option maxRecDepth 1000000
set_option maxHeartbeats 8000000
theorem eqvs_same : ∀ (n : Nat) (a : List Nat), a.length = n → eqvs (List.replicate n (.int .u8)) (byN a) (byN a) = some true
  | 0, [], _ => rfl
  | n + 1, x :: a, h => by
    have ih := eqvs_same n a (by simpa using h)
    simp only [byN] at ih
    simp [List.replicate_succ, byN, eqvs, ih, eqv1]
  | 0, _ :: _, h => by simp at h
  | _ + 1, [], h => by simp at h
theorem eq_cell (a : List Nat) (h : a.length = 64) : eqV (.cells (List.replicate 64 (.int .u8))) (.agg (byN a)) (.agg (byN a)) = some true := eqvs_same 64 a h
section
variable (G : VProg)
def SK11 (eA eF : List (List Nat)) (cs ss : List (List Nat)) (tb : List Bool) (fz : Bool) (k : Nat) : St :=
  ⟨(.gone 0 :: .gone 0 :: .gone 0 :: .gone 0 :: .gone 0 :: .gone 0 :: .gone 0 :: .gone 0 :: .gone 0 :: .ptr (.obj 2 0) :: .ptr (.obj 6 0) :: .ptr (.obj 10 0) :: .gone 0 :: .gone 0 :: .ptr (.obj 12 0) :: .gone 0 :: .gone 0 :: .gone 0 :: .ptr (.obj 14 0) :: .gone 0 :: .gone 0 :: .gone 0 :: .gone 0 :: .gone 0 :: .gone 0 :: .gone 0 :: .gone 0 :: .gone 0 :: .gone 0 :: .gone 0 :: .gone 0 :: .gone 0 :: .gone 0 :: .gone 0 :: .gone 0 :: .gone 0 :: .gone 0 :: .gone 0 :: .gone 0 :: .gone 0 :: .gone 0 :: .gone 0 :: .gone 0 :: .gone 0 :: .gone 0 :: .gone 0 :: .gone 0 :: .gone 0 :: .gone 0 :: .gone 0 :: .gone 0 :: .gone 0 :: .gone 0 :: .gone 0 :: .gone 0 :: .gone 0 :: .gone 0 :: .gone 0 :: .gone 0 :: .gone 0 :: .gone 0 :: .gone 0 :: .gone 0 :: .gone 0 :: .gone 0 :: .gone 0 :: .gone 0 :: .gone 0 :: .gone 0 :: .gone 0 :: .gone 0 :: .gone 0 :: .gone 0 :: .gone 0 :: .gone 0 :: .gone 0 :: .gone 0 :: .gone 0 :: .gone 0 :: .gone 0 :: .gone 0 :: .gone 0 :: .gone 0 :: .gone 0 :: .gone 0 :: .gone 0 :: .gone 0 :: .gone 0 :: .gone 0 :: .gone 0 :: .gone 0 :: .gone 0 :: .gone 0 :: .gone 0 :: .gone 0 :: .gone 0 :: .gone 0 :: .gone 0 :: .gone 0 :: .gone 0 :: .gone 0 :: .gone 0 :: .gone 0 :: .gone 0 :: .gone 0 :: .gone 0 :: .gone 0 :: .gone 0 :: .gone 0 :: .gone 0 :: .gone 0 :: .gone 0 :: .gone 0 :: .gone 0 :: .gone 0 :: .gone 0 :: .gone 0 :: .gone 0 :: .gone 0 :: .gone 0 :: .gone 0 :: .gone 0 :: .gone 0 :: .gone 0 :: .gone 0 :: .gone 0 :: .gone 0 :: .gone 0 :: .gone 0 :: .gone 0 :: .gone 0 :: .gone 0 :: .gone 0 :: .gone 0 :: .gone 0 :: .gone 0 :: .gone 0 :: .gone 0 :: .gone 0 :: .gone 0 :: .gone 0 :: .gone 0 :: .gone 0 :: .gone 0 :: .gone 0 :: .gone 0 :: .gone 0 :: .gone 0 :: .gone 0 :: .int .i64 k :: .gone 0 :: .gone 0 :: .gone 0 :: .gone 0 :: .gone 0 :: .gone 0 :: .gone 0 :: .gone 0 :: .gone 0 :: .gone 0 :: .gone 0 :: .gone 0 :: .gone 0 :: .gone 0 :: .gone 0 :: .gone 0 :: .gone 0 :: .gone 0 :: .gone 0 :: .gone 0 :: .gone 0 :: .gone 0 :: .gone 0 :: .gone 0 :: .gone 0 :: .gone 0 :: .gone 0 :: .gone 0 :: .gone 0 :: .gone 0 :: .gone 0 :: .gone 0 :: .gone 0 :: []),
    [none, none, some (plateO eF fz [] false (-1)), none, none, none, some (plateO eA fz [] false (-1)), none, none, none, boolO tb, none, rowO cs, none, rowO ss, none, none]⟩
theorem k6 (hg : HGetP G) (e eA eF : List (List Nat)) (heA : eA.length = 20) (heF : eF.length = 20) (hA64 : ∀ c ∈ eA, c.length = 64) (hF64 : ∀ c ∈ eF, c.length = 64) (hlA : ∀ i, (getC eA [] i).length = 64) (hlF : ∀ i, (getC eF [] i).length = 64) (ls : List (Nat × List Nat))
    (cs ss : List (List Nat)) (hcs : cs.length = 20) (hss : ss.length = 20) (hc64 : ∀ c ∈ cs, c.length = 64) (hs64 : ∀ c ∈ ss, c.length = 64) (tb : List Bool) (htb : tb.length = 20) (os : List Nat)
    (hW : ∀ (k : Nat) (h : k < 20), tb[k] = false → cs[k] = getC eF [] k) (hS : ∀ (k : Nat) (h : k < 20), ss[k] = getC eA [] k)
    (tA : lim G 21 [q0, .isl 0 1 (byN os), .int .i64 (-1), .int .i64 0] [plateO e true ls false (-1)] = some (.tup [], [plateO eA false [] false (-1)])) :
    WL G 0 (tl 16 b3) (SK10 e eF ls cs ss tb os) (QK G) := by
  unfold SK10
  dsimp only [tl, b3]
  refine runV trivial trivial ?_
  refine WL_loop (fun k => SK11 eA eF cs ss tb (decide (0 < k)) k) (fun k => k ≤ 20) (fun k => 20 - k) ?_ 0 _ (Nat.zero_le _) ((rebaseB_eq [10, 12, 14] (big3 _ _ _ _ _ _ _ _ _ _ _ _)).trans (by kernel_rfl))
  intro k hk
  by_cases hlt : k < 20
  · have d1 : decide ((k : Int) < 20) = true := by simp; omega
    have i1 := inc64 k (by omega)
    have hki : (0 : Int) ≤ (k : Int) ∧ (k : Int) < 20 := by omega
    have hW' := hW k hlt
    have hS' := hS k hlt
    have hgF := fun fz => get20 hg k hlt eF heF hF64 fz [] (by simp) (by simp)
    have hgA := fun fz => get20 hg k hlt eA heA hA64 fz [] (by simp) (by simp)
    have hxl := hlF k
    have hyl := hlA k
    obtain ⟨xc, hxc⟩ : ∃ c, c = getC eF [] k := ⟨_, rfl⟩
    obtain ⟨yc, hyc⟩ : ∃ c, c = getC eA [] k := ⟨_, rfl⟩
    rw [← hxc] at hxl hW'
    rw [← hyc] at hyl hS'
    simp only [← hxc] at hgF
    simp only [← hyc] at hgA
    have f1 := flat_take cs hc64 k (by omega)
    have f2 := flat_take ss hs64 k (by omega)
    rw [hS'] at f2
    have l1 : (byN cs.flatten).length = 1280 := by rw [byN_len, rows_len cs hc64, hcs]
    have l2 : (byN ss.flatten).length = 1280 := by rw [byN_len, rows_len ss hs64, hss]
    have hbl : (tb.map V.bool).length = 20 := by rw [List.length_map, htb]
    have f5 : List.take 1 (List.drop (k * 1) (tb.map V.bool)) = [V.bool tb[k]] := by
      have hn' : k < (tb.map V.bool).length := by omega
      rw [Nat.mul_one, List.drop_eq_getElem_cons hn', List.take_succ_cons, List.take_zero, List.getElem_map]
    have hoff : k * 64 + 64 ≤ 1280 ∧ k * 1 + 1 ≤ 20 := by omega
    have rgx := regens_gA (n := 63) hxl
    have rgy := regens_gA (n := 63) hyl
    have hend : SK11 eA eF cs ss tb true (k + 1) = SK11 eA eF cs ss tb (decide (0 < k + 1)) (k + 1) := by rw [show decide (0 < k + 1) = true by simp]
    cases hb : tb[k]
    · rw [hb] at f5
      rw [hW' hb] at f1
      have F := And.intro d1 (And.intro i1 (And.intro f1 (And.intro f2 (And.intro f5 (And.intro l1 (And.intro l2 (And.intro hbl (And.intro (hx_cell xc 0) (And.intro (hx_cell yc 0) (And.intro (eq_cell xc hxl) (And.intro (eq_cell yc hyl) (And.intro (cfK hxl) (cfK hyl)))))))))))))
      cases hz : decide (0 < k)
      · have g1 := hgF false
        have g2 := hgA false
        unfold SK11 at hend ⊢
        refine runV F (And.intro rgx (And.intro rgy (And.intro hki hoff))) ?_
        refine Qr_n (k + 1) (Eq.trans ?_ hend) ⟨by omega, by omega⟩
        exact (rebaseB_eq [10, 12, 14] (big3 _ _ _ _ _ _ _ _ _ _ _ _)).trans (by kernel_rfl)
      · have g1 := hgF true
        have g2 := hgA true
        unfold SK11 at hend ⊢
        refine runV F (And.intro rgx (And.intro rgy (And.intro hki hoff))) ?_
        refine Qr_n (k + 1) (Eq.trans ?_ hend) ⟨by omega, by omega⟩
        exact (rebaseB_eq [10, 12, 14] (big3 _ _ _ _ _ _ _ _ _ _ _ _)).trans (by kernel_rfl)
    · rw [hb] at f5
      have F := And.intro d1 (And.intro i1 (And.intro f1 (And.intro f2 (And.intro f5 (And.intro l1 (And.intro l2 (And.intro hbl (And.intro (hx_cell xc 0) (And.intro (hx_cell yc 0) (And.intro (eq_cell xc hxl) (And.intro (eq_cell yc hyl) (And.intro (cfK hxl) (cfK hyl)))))))))))))
      cases hz : decide (0 < k)
      · have g1 := hgF false
        have g2 := hgA false
        unfold SK11 at hend ⊢
        refine runV F (And.intro rgx (And.intro rgy (And.intro hki hoff))) ?_
        refine Qr_n (k + 1) (Eq.trans ?_ hend) ⟨by omega, by omega⟩
        exact (rebaseB_eq [10, 12, 14] (big3 _ _ _ _ _ _ _ _ _ _ _ _)).trans (by kernel_rfl)
      · have g1 := hgF true
        have g2 := hgA true
        unfold SK11 at hend ⊢
        refine runV F (And.intro rgx (And.intro rgy (And.intro hki hoff))) ?_
        refine Qr_n (k + 1) (Eq.trans ?_ hend) ⟨by omega, by omega⟩
        exact (rebaseB_eq [10, 12, 14] (big3 _ _ _ _ _ _ _ _ _ _ _ _)).trans (by kernel_rfl)
  · obtain rfl : k = 20 := by omega
    have d1 : decide (((20 : Nat) : Int) < 20) = false := by decide
    rw [show decide (0 < 20) = true by decide]
    unfold SK11
    refine runV d1 trivial ?_
    refine Qr_x ?_
    refine Qb_x (σ1 := ⟨(.gone 0 :: .gone 0 :: .gone 0 :: .gone 0 :: .gone 0 :: .gone 0 :: .gone 0 :: .gone 0 :: .gone 0 :: .gone 0 :: .gone 0 :: .gone 0 :: .gone 0 :: .gone 0 :: .gone 0 :: .gone 0 :: .gone 0 :: .gone 0 :: .gone 0 :: .gone 0 :: .gone 0 :: .gone 0 :: .gone 0 :: .gone 0 :: .gone 0 :: .gone 0 :: .gone 0 :: .gone 0 :: .gone 0 :: .gone 0 :: .gone 0 :: .gone 0 :: .gone 0 :: .gone 0 :: .gone 0 :: .gone 0 :: .gone 0 :: .gone 0 :: .gone 0 :: .gone 0 :: .gone 0 :: .gone 0 :: .gone 0 :: .gone 0 :: .gone 0 :: .gone 0 :: .gone 0 :: .gone 0 :: .gone 0 :: .gone 0 :: .gone 0 :: .gone 0 :: .gone 0 :: .gone 0 :: .gone 0 :: .gone 0 :: .gone 0 :: .gone 0 :: .gone 0 :: .gone 0 :: .gone 0 :: .gone 0 :: .gone 0 :: .gone 0 :: .gone 0 :: .gone 0 :: .gone 0 :: .gone 0 :: .gone 0 :: .gone 0 :: .gone 0 :: .gone 0 :: .gone 0 :: .gone 0 :: .gone 0 :: .gone 0 :: .gone 0 :: .gone 0 :: .gone 0 :: .gone 0 :: .gone 0 :: .gone 0 :: .gone 0 :: .gone 0 :: .gone 0 :: .gone 0 :: .gone 0 :: .gone 0 :: .gone 0 :: .gone 0 :: .gone 0 :: .gone 0 :: .gone 0 :: .gone 0 :: .gone 0 :: .gone 0 :: .gone 0 :: .gone 0 :: .gone 0 :: .gone 0 :: .gone 0 :: .gone 0 :: .gone 0 :: .gone 0 :: .gone 0 :: .gone 0 :: .gone 0 :: .gone 0 :: .gone 0 :: .gone 0 :: .gone 0 :: .gone 0 :: .gone 0 :: .gone 0 :: .gone 0 :: .gone 0 :: .gone 0 :: .gone 0 :: .gone 0 :: .gone 0 :: .gone 0 :: .gone 0 :: .gone 0 :: .gone 0 :: .gone 0 :: .gone 0 :: .gone 0 :: .gone 0 :: .gone 0 :: .gone 0 :: .gone 0 :: .gone 0 :: .gone 0 :: .gone 0 :: .gone 0 :: .gone 0 :: .gone 0 :: .gone 0 :: .gone 0 :: .gone 0 :: .gone 0 :: .gone 0 :: .gone 0 :: .gone 0 :: .gone 0 :: .gone 0 :: .gone 0 :: .gone 0 :: .gone 0 :: .gone 0 :: .gone 0 :: .gone 0 :: .gone 0 :: .gone 0 :: .gone 0 :: .gone 0 :: .gone 0 :: .gone 0 :: .gone 0 :: .gone 0 :: .gone 0 :: .gone 0 :: .gone 0 :: .gone 0 :: .gone 0 :: .gone 0 :: .gone 0 :: .gone 0 :: .gone 0 :: .gone 0 :: .gone 0 :: .gone 0 :: .gone 0 :: .gone 0 :: .gone 0 :: .gone 0 :: .gone 0 :: .gone 0 :: .gone 0 :: .gone 0 :: .gone 0 :: .gone 0 :: .gone 0 :: []), [none, none, none, none, none, none, none, none, none, none, none, none, none, none, none, none, none]⟩) ((rebaseB_eq [10, 12, 14] (big3 _ _ _ _ _ _ _ _ _ _ _ _)).trans (by kernel_rfl)) ?_
    exact runV trivial trivial trivial
end
end P1
end Go.Vq
namespace Go.Vq
namespace P1
open Go
set_option maxRecDepth 1000000
set_option maxHeartbeats 8000000
theorem getC_fold (es : List (List Nat)) (ls : List (Nat × List Nat)) (hl : ∀ w ∈ ls, w.1 < es.length) (i : Int) : getC es ls i = if inR i es.length then (ls.foldl wr es).getD i.toNat zero64 else zero64 := by
  unfold getC
  split
  · rename_i h
    obtain ⟨k, rfl⟩ : ∃ k : Nat, i = k := ⟨i.toNat, by simp [inR] at h; omega⟩
    have hk : k < es.length := by simp [inR] at h; omega
    clear h
    simp only [Int.toNat_natCast]
    have key : ∀ (rs : List (Nat × List Nat)), (∀ w ∈ rs, w.1 < es.length) → (find rs.reverse k).getD (es.getD k zero64) = (rs.reverse.foldl wr es).getD k zero64 := by
      intro rs hr
      induction rs with
      | nil => rfl
      | cons w rs ih =>
        have ih := ih fun w hw => hr w (List.mem_cons_of_mem _ hw)
        have hw := hr w List.mem_cons_self
        rw [List.reverse_cons, List.foldl_append, List.foldl_cons, List.foldl_nil]
        unfold find at ih ⊢
        rw [List.reverse_append, List.reverse_cons, List.reverse_nil, List.nil_append, List.cons_append, List.nil_append, List.find?_cons]
        have hlen := foldl_wr_len es rs.reverse
        by_cases hwk : w.1 = k
        · rw [show decide ((w.1 : Int) = (k : Int)) = true by simp; omega]
          simp only [Option.map_some, Option.getD_some, wr, hwk, List.getD_eq_getElem?_getD]
          rw [List.getElem?_set_self (by rw [hlen]; exact hk)]; rfl
        · rw [show decide ((w.1 : Int) = (k : Int)) = false by simp; omega]
          simp only [wr, List.getD_eq_getElem?_getD] at ih ⊢
          rw [List.getElem?_set_ne hwk]
          exact ih
    have := key ls.reverse (fun w hw => hl w (List.mem_reverse.1 hw))
    rwa [List.reverse_reverse] at this
  · rfl
theorem getC_fold1 (es : List (List Nat)) (ls : List (Nat × List Nat)) (hl : ∀ w ∈ ls, w.1 < es.length) (i : Int) : getC (ls.foldl wr es) [] i = getC es ls i := by
  rw [getC_fold es ls hl, getC_fold (ls.foldl wr es) [] (by simp), foldl_wr_len]
  rfl
theorem getC_nil (es : List (List Nat)) (k : Nat) (h : k < es.length) : getC es [] k = es[k] := by
  rw [getC_fold es [] (by simp), if_pos (by simp [inR]; omega)]
  simp [List.getD_eq_getElem?_getD, h]
theorem getC_64 {es : List (List Nat)} {ls : List (Nat × List Nat)} (he : ∀ c ∈ es, c.length = 64) (hl : ∀ w ∈ ls, w.1 < es.length ∧ w.2.length = 64) (i : Int) : (getC es ls i).length = 64 := by
  rw [getC_fold es ls fun w hw => (hl w hw).1]
  split
  · rename_i h
    have hi : i.toNat < (ls.foldl wr es).length := by rw [foldl_wr_len]; simp [inR] at h; omega
    rw [List.getD_eq_getElem?_getD, List.getElem?_eq_getElem hi, Option.getD_some]
    exact foldl_wr_64 he (fun w hw => (hl w hw).2) _ (List.getElem_mem _)
  · rfl
theorem flA_keep (kp : List Nat) (t a : Int) (es : List (List Nat)) (ls : List (Nat × List Nat)) (k : Nat) (h : ∀ w ∈ ls, w.1 ≠ k) (i : Nat) : (flA kp t a es ls i)[k]? = es[k]? := by
  induction i with
  | zero => rfl
  | succ i ih =>
    simp only [flA]
    split
    · rename_i w hw
      rw [List.getElem?_set_ne (h w (List.mem_of_getElem? hw))]
      exact ih
    · exact ih
theorem bit255 : ∀ j : Fin 8, bitP 255 j.val = true := by decide
theorem flA_ones (es : List (List Nat)) (ls : List (Nat × List Nat)) (he : ∀ c ∈ es, c.length = 64) (hl : ∀ w ∈ ls, w.1 < es.length ∧ w.2.length = 64) (hn : ls.length ≤ 160) (i : Nat) (hi : i ≤ ls.length) : flA (List.replicate 20 255) (-1) 0 es ls i = (ls.take i).foldl wr es := by
  induction i with
  | zero => rfl
  | succ i ih =>
    have ih := ih (by omega)
    have hil : i < ls.length := by omega
    simp only [flA, List.getElem?_eq_getElem hil]
    have hm : many (List.replicate 20 255) (-1) 0 i = 64 := by
      unfold many
      have h1 : ((i : Int) == -1) = false := beq_eq_false_iff_ne.mpr (by omega)
      have h2 : (List.replicate 20 255).getD (i / 8) 0 = 255 := by
        rw [List.getD_eq_getElem?_getD, List.getElem?_replicate, if_pos (by omega)]; rfl
      have h3 := bit255 ⟨i % 8, Nat.mod_lt _ (by omega)⟩
      simp only at h3
      rw [if_neg (by rw [h1]; decide), h2, h3, byN_len, List.length_replicate]
      have h4 : decide (((i / 8 : Nat) : Int) < ((20 : Nat) : Int)) = true := by simp; omega
      rw [h4]
      rfl
    rw [hm, List.take_add_one, List.getElem?_eq_getElem hil, Option.toList_some, List.foldl_append, List.foldl_cons, List.foldl_nil, ← ih]
    obtain ⟨hw1, hw2⟩ := hl ls[i] (List.getElem_mem _)
    have hlen : ls[i].1 < (flA (List.replicate 20 255) (-1) 0 es ls i).length := by rw [flA_len]; exact hw1
    have ht : tear 64 (flA (List.replicate 20 255) (-1) 0 es ls i)[ls[i].1]! ls[i].2 = ls[i].2 := by
      unfold tear
      rw [getElem!_pos (flA (List.replicate 20 255) (-1) 0 es ls i) ls[i].1 hlen]
      rw [List.take_of_length_le (by omega), List.drop_of_length_le (by rw [flA_64 he hl i _ (List.getElem_mem _)]; exact Nat.le_refl _), List.append_nil]
    rw [ht]
theorem tb_ls : ∀ (l : List ActK) (tb : List Bool) (ls : List (Nat × List Nat)) (k : Nat), (tb[k]? = some false → ∀ w ∈ ls, w.1 ≠ k) → (l.foldl stepT tb)[k]? = some false → ∀ w ∈ lsOf ls l, w.1 ≠ k
  | [], tb, ls, k, h0, h => h0 h
  | a :: l, tb, ls, k, h0, h => by
    refine tb_ls l (stepT tb a) (stepP ls a) k (fun hk w hw => ?_) h
    unfold stepT at hk
    unfold stepP at hw
    by_cases hx : inR a.at' 20 = true
    · rw [if_pos hx] at hk hw
      rw [List.getElem?_set] at hk
      by_cases e : a.at'.toNat = k
      · rw [if_pos e] at hk
        split at hk <;> simp at hk
      · rw [if_neg e] at hk
        rcases List.mem_append.1 hw with hw | hw
        · exact h0 hk w hw
        · rw [List.mem_singleton] at hw
          subst hw
          exact e
    · rw [if_neg hx] at hk hw
      exact h0 hk w hw
section
variable (G : VProg)
theorem keeps0 (hG : G 3 = some (.code v3)) (hA : lim G 14 [] [] = some (.bool true, [])) (hN : lim G 15 [.int .i64 20] [] = some (q0, [plateO es0 false [] false (-1)]))
    (as1 as2 : List ActK) (kp : List Nat) (t0 t1 : Int) (h1 : as1.length ≤ 60) (h2 : as2.length ≤ 60) (h3 : kp.length ≤ 20) (hv1 : ∀ a ∈ as1, a.v < 256) (hv2 : ∀ a ∈ as2, a.v < 256) (hP : HPutP G) (hC : ∀ v : Nat, v < 256 → lim G 17 [.int .u8 v] [] = some (cellV (cellOf v), [])) (hgt : HGetP G)
    (hFl : ∀ es fz ls off left, (∀ c ∈ es, c.length = 64) → (∀ w ∈ ls, w.1 < es.length ∧ w.2.length = 64) → ls.length < 2 ^ 40 → LR left → lim G 18 [q0] [plateO es fz ls off left] = if spO off left then some (.int .i64 72, [plateO es fz ls true left]) else some (.int .i64 0, [plateO (ls.foldl wr es) false [] false (spL off left)]))
    (hLo : ∀ es fz ls off left, lim G 19 [q0] [plateO es fz ls off left] = some (.int .i64 ls.length, [plateO es fz ls off left]))
    (hFa : ∀ (kp : List Nat) (torn at' : Int) es fz ls off left, (∀ c ∈ es, c.length = 64) → (∀ w ∈ ls, w.1 < es.length ∧ w.2.length = 64) → ls.length < 2 ^ 40 → lim G 21 [q0, .isl 0 1 (byN kp), .int .i64 torn, .int .i64 at'] [plateO es fz ls off left] = some (.tup [], [plateO (flA kp torn at' es ls ls.length) false [] false (-1)])) :
    lim G 3 [.agg [.isl 0 4 (as1.map actK), .isl 0 4 (as2.map actK)], .isl 0 1 (byN kp), .agg [.int .i64 t0, .int .i64 t1]] [] = some (.bool true, []) := by
  have c1 : decide ((60 : Int) < (as1.length : Int)) = false := by simp; omega
  have c2 : decide ((60 : Int) < (as2.length : Int)) = false := by simp; omega
  have c3 : decide ((20 : Int) < (kp.length : Int)) = false := by simp; omega
  obtain ⟨e0, he0⟩ : ∃ e, e = es0 := ⟨_, rfl⟩
  rw [← he0] at hN
  refine lim_fun hG (h := runV (And.intro c1 (And.intro c2 c3)) trivial ?_)
  have he0' : e0.length = 20 := by rw [he0]; rfl
  refine WL_loop (fun k => SK1 as1 as2 kp t0 t1 e0 (lsOf [] (as1.take k)) k) (fun k => k ≤ as1.length) (fun k => as1.length - k) ?_ 0 _ (Nat.zero_le _) (by kernel_rfl)
  intro k hk
  by_cases hlt : k < as1.length
  · have d1 : decide ((k : Int) < (as1.length : Int)) = true := by simp; omega
    have i1 := inc64 k (by omega)
    have hil : (k : Int) < (as1.length : Int) := by omega
    have hg : (as1.map actK)[k]? = some (actK as1[k]) := by simp [hlt]
    have hsu := lsOf_succ [] as1 k hlt
    have hll : (lsOf [] (as1.take k)).length ≤ 60 := by have := lsOf_len [] (as1.take k); simp at this; omega
    obtain ⟨ls, hls⟩ : ∃ ls, ls = lsOf [] (as1.take k) := ⟨_, rfl⟩
    rw [← hls] at hll hsu ⊢
    have hvk := hv1 as1[k] (List.getElem_mem _)
    obtain ⟨⟨kd, at', nn, v⟩, ha⟩ : ∃ a, a = as1[k] := ⟨_, rfl⟩
    rw [← ha] at hg hvk hsu
    have g1 := hC v hvk
    have g2 := put20 hP at' (cellOf v) (cellOf_len v) e0 he0' false ls (by omega)
    have hcl := cellOf_len v
    unfold stepP at hsu
    simp only at hsu
    obtain ⟨c, hc⟩ : ∃ c, c = cellOf v := ⟨_, rfl⟩
    rw [← hc] at g1 g2 hcl hsu
    have F := And.intro d1 (And.intro i1 (And.intro hil (And.intro hg (And.intro (apart_cell c) hcl))))
    cases hx : inR at' 20 <;> rw [hx] at g2 hsu
    · simp only [Bool.false_eq_true, if_false] at g2 hsu
      unfold SK1
      refine runV F trivial ?_
      refine Qr_n (k + 1) (Eq.trans ?_ (show SK1 as1 as2 kp t0 t1 e0 ls (k + 1) = SK1 as1 as2 kp t0 t1 e0 (lsOf [] (as1.take (k + 1))) (k + 1) by rw [hsu])) ⟨by omega, by omega⟩
      kernel_rfl
    · simp only [if_true] at g2 hsu
      unfold SK1
      refine runV F trivial ?_
      refine Qr_n (k + 1) (Eq.trans ?_ (show SK1 as1 as2 kp t0 t1 e0 (ls ++ [(at'.toNat, c)]) (k + 1) = SK1 as1 as2 kp t0 t1 e0 (lsOf [] (as1.take (k + 1))) (k + 1) by rw [hsu])) ⟨by omega, by omega⟩
      kernel_rfl
  · obtain rfl : k = as1.length := by omega
    have d1 : decide ((as1.length : Int) < (as1.length : Int)) = false := by simp
    rw [List.take_length]
    have hz64 : ∀ c ∈ e0, c.length = 64 := by rw [he0]; intro c hc; rw [(List.mem_replicate.1 hc).2]; rfl
    have hok1 := lsOf_ok [] (by simp) as1
    have hll1 := lsOf_len [] as1
    have hok2 := lsOf_ok [] (by simp) as2
    have hll2 := lsOf_len [] as2
    simp only [List.length_nil, Nat.zero_add] at hll1 hll2
    have hokA := lsOf_ok _ hok1 as2
    have hllA := lsOf_len (lsOf [] as1) as2
    have htl := tbOf_len as2
    have htb := tb_ls as2 (List.replicate 20 false) []
    have htb' : ∀ (k : Nat) (h : k < 20), (tbOf as2)[k] = false → ∀ w ∈ lsOf [] as2, w.1 ≠ k := fun k h hk => htb k (fun _ w hw => by simp at hw) (by
      have h5 : (tbOf as2)[k]? = some (tbOf as2)[k] := List.getElem?_eq_getElem (by rw [htl]; exact h)
      rw [hk] at h5
      exact h5)
    obtain ⟨ls1, hls1⟩ : ∃ x, x = lsOf [] as1 := ⟨_, rfl⟩
    obtain ⟨ls2, hls2⟩ : ∃ x, x = lsOf [] as2 := ⟨_, rfl⟩
    rw [← hls1] at hok1 hll1 hokA hllA ⊢
    rw [← hls2] at hok2 hll2 htb'
    have a1 : ∀ w ∈ ls1, w.1 < e0.length ∧ w.2.length = 64 := fun w hw => by rw [he0']; exact hok1 w hw
    have aA : ∀ w ∈ lsOf ls1 as2, w.1 < e0.length ∧ w.2.length = 64 := fun w hw => by rw [he0']; exact hokA w hw
    have hl1 : (ls1.foldl wr e0).length = 20 := by rw [foldl_wr_len, he0']
    have h164 : ∀ c ∈ ls1.foldl wr e0, c.length = 64 := foldl_wr_64 hz64 fun w hw => (a1 w hw).2
    have a2 : ∀ w ∈ ls2, w.1 < (ls1.foldl wr e0).length ∧ w.2.length = 64 := fun w hw => by rw [hl1]; exact hok2 w hw
    have f1 := hFl e0 false ls1 false (-1) hz64 a1 (by omega) (by simp [LR])
    have f2 := hLo (ls1.foldl wr e0) false [] false (-1)
    have f3 := hFa kp t0 t1 (ls1.foldl wr e0) true ls2 false (-1) h164 a2 (by omega)
    have f4 := hFa (List.replicate 20 255) (-1) 0 e0 true (lsOf ls1 as2) false (-1) hz64 aA (by omega)
    have hfold : getC e0 (lsOf ls1 as2) = getC ((lsOf ls1 as2).foldl wr e0) [] := funext fun i => (getC_fold1 e0 (lsOf ls1 as2) (fun w hw => (aA w hw).1) i).symm
    rw [flA_ones e0 (lsOf ls1 as2) hz64 aA (by omega) _ (Nat.le_refl _), List.take_length] at f4
    have hF64 : ∀ c ∈ flA kp t0 t1 (ls1.foldl wr e0) ls2 ls2.length, c.length = 64 := flA_64 h164 a2 _
    have hFl20 : (flA kp t0 t1 (ls1.foldl wr e0) ls2 ls2.length).length = 20 := by rw [flA_len, hl1]
    unfold SK1
    refine runV d1 trivial ?_
    refine Qr_x ?_
    refine Qb_x (σ1 := SK2 as1 as2 kp t0 t1 e0 ls1) (by kernel_rfl) ?_
    refine k2 G hgt as1 as2 kp t0 t1 e0 ls1 (ls1.foldl wr e0) hl1 h164 (fun i => getC_64 h164 (by simp) i) f1 f2 ?_
    refine k3 G hP hC as1 as2 h2 hv2 kp t0 t1 e0 (ls1.foldl wr e0) he0' hl1 ls1 (by omega) _ ?_
    rw [← hls2]
    refine k4 G hgt kp t0 t1 e0 (ls1.foldl wr e0) he0' hz64 (lsOf ls1 as2) ls2 (by omega) (fun w hw => (hokA w hw).2) (fun i => getC_64 hz64 aA i) _ _ ?_
    refine k5 G kp t0 t1 e0 (ls1.foldl wr e0) _ (lsOf ls1 as2) ls2 _ _ _ f3 ?_
    refine k6 G hgt e0 ((lsOf ls1 as2).foldl wr e0) _ (by rw [foldl_wr_len, he0']) hFl20 (foldl_wr_64 hz64 fun w hw => (aA w hw).2) hF64 (fun i => getC_64 (foldl_wr_64 hz64 fun w hw => (aA w hw).2) (by simp) i) (fun i => getC_64 hF64 (by simp) i) (lsOf ls1 as2)
      _ _ (seenN_len _ _) (seenN_len _ _) (seenN_64 _ (fun j => getC_64 h164 (by simp) _) _) (seenN_64 _ (fun j => getC_64 hz64 aA _) _) _ htl _ (fun k h hk => ?_) (fun k h => ?_) f4
    · have e1 := seenN_get (fun j => getC (ls1.foldl wr e0) [] (j : Int)) k h
      rw [List.getElem?_eq_getElem (by rw [seenN_len]; exact h)] at e1
      rw [Option.some.inj e1, getC_nil _ _ (by rw [hl1]; exact h), getC_nil _ _ (by rw [hFl20]; exact h)]
      have := flA_keep kp t0 t1 (ls1.foldl wr e0) ls2 k (htb' k h hk) ls2.length
      rw [List.getElem?_eq_getElem (by rw [hFl20]; exact h), List.getElem?_eq_getElem (by rw [hl1]; exact h)] at this
      exact (Option.some.inj this).symm
    · have e1 := seenN_get (fun j => getC e0 (lsOf ls1 as2) (j : Int)) k h
      rw [List.getElem?_eq_getElem (by rw [seenN_len]; exact h)] at e1
      rw [Option.some.inj e1, hfold]
theorem plateKeeps (hG : G 3 = some (.code v3)) (hA : lim G 14 [] [] = some (.bool true, [])) (hN : lim G 15 [.int .i64 20] [] = some (q0, [plateO es0 false [] false (-1)]))
    (as1 as2 : List ActK) (kp : List Nat) (t0 t1 : Int) (hv1 : ∀ a ∈ as1, a.v < 256) (hv2 : ∀ a ∈ as2, a.v < 256) (hP : HPutP G) (hC : ∀ v : Nat, v < 256 → lim G 17 [.int .u8 v] [] = some (cellV (cellOf v), [])) (hgt : HGetP G)
    (hFl : ∀ es fz ls off left, (∀ c ∈ es, c.length = 64) → (∀ w ∈ ls, w.1 < es.length ∧ w.2.length = 64) → ls.length < 2 ^ 40 → LR left → lim G 18 [q0] [plateO es fz ls off left] = if spO off left then some (.int .i64 72, [plateO es fz ls true left]) else some (.int .i64 0, [plateO (ls.foldl wr es) false [] false (spL off left)]))
    (hLo : ∀ es fz ls off left, lim G 19 [q0] [plateO es fz ls off left] = some (.int .i64 ls.length, [plateO es fz ls off left]))
    (hFa : ∀ (kp : List Nat) (torn at' : Int) es fz ls off left, (∀ c ∈ es, c.length = 64) → (∀ w ∈ ls, w.1 < es.length ∧ w.2.length = 64) → ls.length < 2 ^ 40 → lim G 21 [q0, .isl 0 1 (byN kp), .int .i64 torn, .int .i64 at'] [plateO es fz ls off left] = some (.tup [], [plateO (flA kp torn at' es ls ls.length) false [] false (-1)])) :
    lim G 3 [.agg [.isl 0 4 (as1.map actK), .isl 0 4 (as2.map actK)], .isl 0 1 (byN kp), .agg [.int .i64 t0, .int .i64 t1]] [] = some (.bool true, []) := by
  have l1 : (as1.map actK).length = as1.length := by simp
  have l2 : (as2.map actK).length = as2.length := by simp
  have l3 : (byN kp).length = kp.length := byN_len kp
  cases c1 : decide ((60 : Int) < (as1.length : Int))
  case true => exact lim_fun hG (h := runV (And.intro c1 (And.intro l1 (And.intro l2 l3))) trivial trivial)
  cases c2 : decide ((60 : Int) < (as2.length : Int))
  case true => exact lim_fun hG (h := runV (And.intro c1 (And.intro c2 (And.intro l1 (And.intro l2 l3)))) trivial trivial)
  cases c3 : decide ((20 : Int) < (kp.length : Int))
  case true => exact lim_fun hG (h := runV (And.intro c1 (And.intro c2 (And.intro c3 (And.intro l1 (And.intro l2 l3))))) trivial trivial)
  exact keeps0 G hG hA hN as1 as2 kp t0 t1 (by simp at c1; omega) (by simp at c2; omega) (by simp at c3; omega) hv1 hv2 hP hC hgt hFl hLo hFa
end
end P1
end Go.Vq
