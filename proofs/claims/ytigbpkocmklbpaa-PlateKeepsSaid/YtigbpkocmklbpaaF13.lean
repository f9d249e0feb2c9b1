/- A machine of values and its tie to the model, and runs of it: part 13 of 14 (no law of Go is stated here). -/
import Derived.Test.YtigbpkocmklbpaaF12
set_option linter.unusedVariables false
set_option linter.unusedSimpArgs false
set_option linter.unusedSectionVars false
namespace Go.Vq
namespace P1
open Go
set_option maxRecDepth 1000000
set_option maxHeartbeats 4000000
section
variable (G : VProg)
def find (ls : List (Nat × List Nat)) (i : Int) : Option (List Nat) := (ls.reverse.find? fun w => decide ((w.1 : Int) = i)).map (·.2)
def SGt (i : Int) (es : List (List Nat)) (ls : List (Nat × List Nat)) (off : Bool) (left : Int) : St := ⟨(q0 :: .gone 0 :: .gone 0 :: .ptr (.obj 1 0) :: .ptr (.obj 2 0) :: .ptr (.obj 3 0) :: .gone 0 :: .gone 0 :: .gone 0 :: .gone 0 :: .gone 0 :: .gone 0 :: .gone 0 :: .gone 0 :: .gone 0 :: .gone 0 :: .gone 0 :: .gone 0 :: .gone 0 :: .gone 0 :: .gone 0 :: .gone 0 :: .gone 0 :: .gone 0 :: .gone 0 :: .gone 0 :: .gone 0 :: .gone 0 :: .gone 0 :: .gone 0 :: .gone 0 :: .gone 0 :: .gone 0 :: []), [some (plateO es true ls off left), some (.cells [.int .i64 i]), some (.cells (Z8 64)), some (.cells [.int .i64 0]), none, none, none, none, none]⟩
def rbGt : VCode × VCode := match b20 with | .seq _ (.seq _ (.seq (.seq _ (.block _ _ (.range _ _ _ _ a b))) _)) => (a, b) | _ => (.skip, .skip)
theorem xsGt (ls : List (Nat × List Nat)) (k : Nat) (h : k < ls.length) (h' : k < ((idxV ((ls.map writeV).map (fixE true))).reverse).length) :
    ((idxV ((ls.map writeV).map (fixE true))).reverse)[k] = [.int .i64 ((ls.length - 1 - k : Nat) : Int), writeV ls[ls.length - 1 - k]] := by
  rw [List.getElem_reverse]
  simp [idxV, fixE, V.cells]
theorem gt_round (i : Int) (es ls off left) (k : Nat) (x : List V) (w : Nat × List Nat) (hw : w.2.length = 64) (hx : x = [.int .i64 ((ls.length - 1 - k : Nat) : Int), writeV w]) (J : Prop) (Q : Out → St → Prop)
    (h1 : (w.1 : Int) ≠ i → J)
    (h2 : (w.1 : Int) = i → Q .ret ⟨(q0 :: .gone 0 :: .gone 0 :: .ptr (.obj 1 0) :: .ptr (.obj 2 0) :: .ptr (.obj 3 0) :: .gone 0 :: .gone 0 :: .gone 0 :: .gone 0 :: .gone 0 :: .gone 0 :: .gone 0 :: .gone 0 :: .gone 0 :: .gone 0 :: .gone 0 :: .gone 0 :: .gone 0 :: .gone 0 :: .gone 0 :: .gone 0 :: .gone 0 :: .gone 0 :: .gone 0 :: .gone 0 :: .gone 0 :: .gone 0 :: .gone 0 :: .gone 0 :: .gone 0 :: .gone 0 :: .gone 0 :: []), [some (plateO es true ls off left), some (.cells [.int .i64 i]), some (.cells (byN w.2)), some (.cells [.int .i64 0]), none, none, none, none, none]⟩) :
    WL G 8 rbGt.1 (setPs [18, 19] x (SGt i es ls off left)) (QsN (lim G) (itersOf G) (limX G) 8 rbGt.2 (Qit 8 (SGt i es ls off left).slots (SGt i es ls off left) J Q)) := by
  subst hx
  obtain ⟨a, c⟩ := w
  simp only at hw h1 h2
  have tc := take_by hw
  have dc := drop_by hw
  unfold rbGt b20 SGt setPs
  simp only [List.zip_cons_cons, List.zip_nil_right, List.foldl_cons, List.foldl_nil, List.set_cons_succ, List.set_cons_zero]
  refine runV (And.intro hw tc) trivial ?_
  refine QsN_n ?_
  by_cases he : (a : Int) = i
  · have he' : ((a : Int) == i) = true := by simpa using he
    refine runV (And.intro hw (And.intro tc (And.intro dc he'))) trivial ?_
    refine Qi_r (τ := ⟨(q0 :: .gone 0 :: .gone 0 :: .ptr (.obj 1 0) :: .ptr (.obj 2 0) :: .ptr (.obj 3 0) :: .gone 0 :: .gone 0 :: .gone 0 :: .gone 0 :: .gone 0 :: .gone 0 :: .gone 0 :: .gone 0 :: .gone 0 :: .gone 0 :: .gone 0 :: .gone 0 :: .gone 0 :: .gone 0 :: .gone 0 :: .gone 0 :: .gone 0 :: .gone 0 :: .gone 0 :: .gone 0 :: .gone 0 :: .gone 0 :: .gone 0 :: .gone 0 :: .gone 0 :: .gone 0 :: .gone 0 :: []), [some (plateO es true ls off left), some (.cells [.int .i64 i]), some (.cells (byN c)), some (.cells [.int .i64 0]), none, none, none, none, none]⟩) ?_ (h2 he)
    obtain ⟨g, rfl⟩ := exN hw
    kernel_rfl
  · have he' : ((a : Int) == i) = false := by simpa using he
    refine runV (And.intro hw (And.intro tc (And.intro dc he'))) trivial ?_
    refine Qi_n ?_ (h1 he)
    obtain ⟨g, rfl⟩ := exN hw
    kernel_rfl
theorem find_at (ls : List (Nat × List Nat)) (i : Int) (k : Nat) (hk : k < ls.length) (he : (ls[k].1 : Int) = i) (hn : ∀ j (h : j < ls.length), k < j → (ls[j].1 : Int) ≠ i) : find ls i = some ls[k].2 := by
  unfold find
  have : ls.reverse.find? (fun w => decide ((w.1 : Int) = i)) = some ls[k] := by
    rw [List.find?_eq_some_iff_getElem]
    refine ⟨by simpa using he, ls.length - 1 - k, by simp; omega, ?_, fun j hj => ?_⟩
    · rw [List.getElem_reverse]; congr 1; omega
    · rw [List.getElem_reverse]
      simpa using hn (ls.length - 1 - j) (by omega) (by omega)
  rw [this]; rfl
theorem find_none (ls : List (Nat × List Nat)) (i : Int) (hn : ∀ j (h : j < ls.length), (ls[j].1 : Int) ≠ i) : find ls i = none := by
  unfold find
  have : ls.reverse.find? (fun w => decide ((w.1 : Int) = i)) = none := by
    rw [List.find?_eq_none]
    intro w hw
    obtain ⟨j, hj, rfl⟩ := List.getElem_of_mem (List.mem_reverse.1 hw)
    simpa using hn j hj
  rw [this]; rfl
def getC (es : List (List Nat)) (ls : List (Nat × List Nat)) (i : Int) : List Nat := if inR i es.length then (find ls i).getD (es.getD i.toNat zero64) else zero64
theorem pget (hG : G 20 = some (.code v20)) (hG54 : G 54 = some (.iter (backwardI true 65)))
    (h45 : ∀ i es fz ls off left, lim G 45 [q0, .int .i64 i] [plateO es fz ls off left] = some (.bool (inR i es.length), [plateO es fz ls off left]))
    (h47 : ∀ (es : List V), lim G 47 [.isl 0 65 es] [] = some (.func 54 [.iptr [.isl 0 65 es]], []))
    (i : Int) (es fz ls off left) (he : ∀ c ∈ es, c.length = 64) (hw : ∀ w ∈ ls, w.2.length = 64) (hb : ls.length < 2 ^ 40) :
    lim G 20 [q0, .int .i64 i] [plateO es fz ls off left] = some (.tup [cellV (getC es ls i), .int .i64 (if inR i es.length then 0 else 71)], [plateO es (if inR i es.length then true else fz) ls off left]) := by
  have hz : zero64.length = 64 := rfl
  have g1 := h45 i es fz ls off left
  have g2 := h47 (ls.map writeV)
  cases hx : inR i es.length <;> rw [hx] at g1
  · simp only [getC, hx, Bool.false_eq_true, if_true, if_false]
    cases fz
    all_goals exact lim_fun hG (h := runV trivial trivial trivial)
  · simp only [getC, hx, Bool.false_eq_true, if_true, if_false]
    cases fz
    all_goals
      refine lim_fun hG (h := runV trivial trivial ?_)
      refine Vq.W_range (g := 54) (caps := [.iptr [.isl 0 65 (ls.map writeV)]]) (bs := [[.isl 0 65 (ls.map writeV)]]) (base := 1) (site := 7) rfl rfl (xs := (idxV ((ls.map writeV).map (fixE true))).reverse) ?_ (fun _ => SGt i es ls off left) (fun k => ∀ j, (h : j < ls.length) → ls.length - k ≤ j → ((ls[j]'h).1 : Int) ≠ i) (fun j h h2 => by omega) (by kernel_rfl) (fun k hk hI => ?_) (fun hI => ?_)
      · simp only [itersOf, hG54, backwardI]
        rw [if_pos (by simp; omega)]
        rfl
      · have hk' : k < ls.length := by simpa [idxV] using hk
        refine gt_round G i es ls off left k _ ls[ls.length - 1 - k] (hw _ (List.getElem_mem _)) (xsGt ls k hk' hk) _ _ (fun hne j hj hjk => ?_) (fun he => ?_)
        · by_cases hjj : j = ls.length - 1 - k
          · subst hjj; exact hne
          · exact hI j hj (by omega)
        · refine Qb_r ?_
          refine Qs_r ?_
          refine Qe_r ?_
          have hf : find ls i = some ls[ls.length - 1 - k].2 := find_at ls i _ (by omega) he (fun j hj hlt => hI j hj (by omega))
          simp only [hf, Option.getD_some]
          have h64 := hw _ (List.getElem_mem (show ls.length - 1 - k < ls.length by omega))
          obtain ⟨g, hg⟩ := exN h64
          rw [hg]
          show _ = _
          kernel_rfl
      · refine Qb_n (σ1 := SGt i es ls off left) (by kernel_rfl) ?_
        have hf : find ls i = none := find_none ls i fun j hj => hI j hj (by simp [idxV])
        simp only [hf, Option.getD_none]
        have hin : i.toNat < es.length := by simp [inR] at hx; omega
        have h64 := he _ (List.getElem_mem hin)
        have e1 : es.getD i.toNat zero64 = es[i.toNat] := by simp [List.getD_eq_getElem?_getD, hin]
        have h1 : (es.map cellV)[i.toNat]? = some (cellV es[i.toNat]) := by simp [hin]
        have hi0 : 0 ≤ i := by simp [inR] at hx; omega
        have hi1 : i < (es.length : Int) := by simp [inR] at hx; omega
        rw [e1]
        have t64 := take_by h64
        have d64 := drop_by h64
        unfold SGt
        refine runV (And.intro h64 (And.intro t64 (And.intro d64 (And.intro h1 (And.intro hi0 hi1))))) trivial ?_
        refine Qe_r ?_
        obtain ⟨g, hg⟩ := exN h64
        rw [hg]
        show _ = _
        kernel_rfl
end
end P1
end Go.Vq
namespace Go.Vq
namespace P1
open Go
set_option maxRecDepth 1000000
set_option maxHeartbeats 4000000
def bodyFa : VCode := (.seq (.region [⟨some 17, .bin (.lss) (.tmp 16) (.tmp 15), none, 0⟩] false) (.seq (.cond (.tmp 17) (.skip) (.exit 0)) (.seq (.block 1 none (.seq (.region [⟨some 18, .move (.tmp 16), none, 0⟩, ⟨some 19, .indexAddr none 65 (.tmp 14) (.tmp 16), none, 0⟩, ⟨some 20, .load true 65 (.tmp 19), none, 2⟩, ⟨some 9, .alloc 0 ([(.int .i64 0)] ++ Z8 64), none, 0⟩, ⟨some 8, .assign (.tmp 18), none, 15⟩, ⟨none, .store 65 (.tmp 9) (.tmp 20), none, 31⟩] false) (.seq (.region [⟨some 10, .assign (.val (.int .i64 0)), none, 0⟩] false) (.seq (.seq (.region [⟨some 21, .move (.tmp 8), none, 0⟩, ⟨some 22, .bin (.quo) (.tmp 21) (.val (.int .i64 8)), none, 1⟩, ⟨some 23, .move (.tmp 1), none, 0⟩, ⟨some 24, .len (.slc 1) (.tmp 23), none, 4⟩, ⟨some 25, .bin (.lss) (.tmp 22) (.tmp 24), none, 15⟩, ⟨some 26, .move (.tmp 25), none, 31⟩, ⟨some 27, .move (.tmp 1), some (26, true), 63⟩, ⟨some 28, .move (.tmp 8), some (26, true), 63⟩, ⟨some 29, .bin (.quo) (.tmp 28) (.val (.int .i64 8)), some (26, true), 191⟩, ⟨some 30, .indexAddr none 1 (.tmp 27) (.tmp 29), some (26, true), 511⟩, ⟨some 31, .load false 1 (.tmp 30), some (26, true), 1023⟩, ⟨some 32, .move (.tmp 8), some (26, true), 63⟩, ⟨some 33, .bin (.rem) (.tmp 32) (.val (.int .i64 8)), some (26, true), 2111⟩, ⟨some 34, .bin (.shr) (.tmp 31) (.tmp 33), some (26, true), 8191⟩, ⟨some 35, .bin (.and) (.tmp 34) (.val (.int .u8 1)), some (26, true), 16383⟩, ⟨some 36, .eq false (.num) (.tmp 35) (.val (.int .u8 1)), some (26, true), 32767⟩, ⟨some 37, .pick (.tmp 26) (.tmp 36) (.val (.bool false)), none, 65535⟩] false) (.cond (.tmp 37) (.region [⟨some 10, .assign (.val (.int .i64 64)), none, 0⟩] false) (.skip))) (.seq (.seq (.region [⟨some 38, .move (.tmp 8), none, 0⟩, ⟨some 39, .move (.tmp 2), none, 0⟩, ⟨some 40, .eq false (.num) (.tmp 38) (.tmp 39), none, 3⟩] false) (.cond (.tmp 40) (.region [⟨some 41, .move (.tmp 3), none, 0⟩, ⟨some 42, .min [(.tmp 41), (.val (.int .i64 64))], none, 1⟩, ⟨some 43, .max [(.val (.int .i64 0)), (.tmp 42)], none, 3⟩, ⟨some 10, .assign (.tmp 43), none, 7⟩] false) (.skip))) (.region [⟨some 44, .move (.tmp 0), none, 0⟩, ⟨some 45, .nilCheck (.tmp 44), none, 1⟩, ⟨some 46, .fieldAddr 0 (.tmp 45), none, 3⟩, ⟨some 47, .load false 1 (.tmp 46), none, 7⟩, ⟨some 48, .fieldAddr 0 (.tmp 9), none, 0⟩, ⟨some 49, .load false 1 (.tmp 48), none, 16⟩, ⟨some 50, .indexAddr none 64 (.tmp 47) (.tmp 49), none, 63⟩, ⟨some 51, .move (.tmp 10), none, 0⟩, ⟨some 52, .slice (.arr 64) (.tmp 50) none (some (.tmp 51)) none, none, 255⟩, ⟨some 53, .fieldAddr 1 (.tmp 9), none, 0⟩, ⟨some 54, .slice (.arr 64) (.tmp 53) none none none, none, 512⟩, ⟨some 55, .copy 1 (.tmp 52) (.tmp 54), none, 2047⟩] true)))))) (.region [⟨some 56, .bin (.add) (.tmp 16) (.val (.int .i64 1)), none, 0⟩, ⟨some 16, .move (.tmp 56), none, 1⟩] false))))
def bitP (x j : Nat) : Bool := (IntKind.u8.wrap (BitVec.ofInt IntKind.u8.bits ((x : Int).fdiv (2 ^ min j IntKind.u8.bits)) &&& BitVec.ofInt IntKind.u8.bits 1).toNat) == 1
def cut (a : Int) : Nat := (max 0 (min a 64)).toNat
def tear (n : Nat) (old new : List Nat) : List Nat := new.take n ++ old.drop n
def SFa (kp : List Nat) (torn at' : Int) (es : List (List Nat)) (fz : Bool) (ls : List (Nat × List Nat)) (off : Bool) (left : Int) (i : Nat) : St :=
  ⟨(q0 :: .isl 0 1 (byN kp) :: .int .i64 torn :: .int .i64 at' :: .gone 0 :: .gone 0 :: .gone 0 :: .gone 0 :: .gone 0 :: .gone 0 :: .gone 0 :: q0 :: q0 :: .ptr (.obj 0 1) :: .srf (.obj 0 1) 0 65 0 ls.length :: .int .i64 ls.length :: .int .i64 i :: .gone 0 :: .gone 0 :: .gone 0 :: .gone 0 :: .gone 0 :: .gone 0 :: .gone 0 :: .gone 0 :: .gone 0 :: .gone 0 :: .gone 0 :: .gone 0 :: .gone 0 :: .gone 0 :: .gone 0 :: .gone 0 :: .gone 0 :: .gone 0 :: .gone 0 :: .gone 0 :: .gone 0 :: .gone 0 :: .gone 0 :: .gone 0 :: .gone 0 :: .gone 0 :: .gone 0 :: .gone 0 :: .gone 0 :: .gone 0 :: .gone 0 :: .gone 0 :: .gone 0 :: .gone 0 :: .gone 0 :: .gone 0 :: .gone 0 :: .gone 0 :: .gone 0 :: .gone 0 :: .gone 0 :: .gone 0 :: .gone 0 :: .gone 0 :: .gone 0 :: .gone 0 :: .gone 0 :: .gone 0 :: .gone 0 :: []), [some (plateO es fz ls off left), none]⟩
section
variable (G : VProg)
theorem setCells_tear {old new : List Nat} {n : Nat} (h : n ≤ new.length) : V.setCells (cellV old) 0 (byN (new.take n)) = cellV (tear n old new) := by
  show V.agg (splice (byN old) 0 (byN (new.take n))) = _
  simp only [splice, List.take_zero, List.nil_append, Nat.zero_add, byN_len, List.length_take, Nat.min_eq_left h, byN_drop, tear, cellV, byN_app]
theorem fa_round (kp : List Nat) (torn at' : Int) (es fz ls off left) (he : ∀ c ∈ es, c.length = 64) (hl : ∀ w ∈ ls, w.1 < es.length ∧ w.2.length = 64) (hn : ls.length < 2 ^ 40) (i : Nat) (hi : i < ls.length) (b1 b2 b3 : Bool)
    (hb1 : decide ((((i / 8 : Nat) : Int)) < ((byN kp).length : Int)) = b1) (hb2 : b1 = true → bitP (kp.getD (i / 8) 0) (i % 8) = b2) (hb3 : ((i : Int) == torn) = b3) (mt : Nat) (hmt : cut at' = mt)
    (Q : Out → St → Prop) (J : Nat → Prop) (hj : J (i + 1)) (S : Nat → St) (hS : S (i + 1) = SFa kp torn at' (es.set ls[i].1 (tear (if b3 then mt else if b1 && b2 then 64 else 0) es[ls[i].1]! ls[i].2)) fz ls off left (i + 1)) :
    WL G 1 bodyFa (SFa kp torn at' es fz ls off left i) (Qrnd (some [0, 1, 2, 3, 11, 12, 13, 14, 15, 16]) 1 S J Q) := by
  have hlt : decide ((i : Int) < ls.length) = true := by simp; omega
  have hw0 := hl ls[i] (List.getElem_mem _)
  have hw := hw0
  have hw2 := hw0.2
  have h1 : (ls.map writeV)[i]? = some (writeV ls[i]) := by simp [hi]
  have eb : es[ls[i].1]! = es[ls[i].1] := by simp [hw.1]
  have h2 : (es.map cellV)[ls[i].1]? = some (cellV es[ls[i].1]) := by simp [hw.1]
  have hinc := inc64 i (by omega)
  have h64 : es[ls[i].1].length = 64 := he _ (List.getElem_mem _)
  have hq : IntKind.i64.wrap ((i : Int).tdiv 8) = ((i / 8 : Nat) : Int) := by
    rw [Int.tdiv_eq_ediv_of_nonneg (by omega), wrapi64 _ (by omega) (by omega)]; rfl
  have hr : (i : Int).tmod 8 = ((i % 8 : Nat) : Int) := by rw [Int.tmod_eq_emod_of_nonneg (by omega)]; rfl
  have hx : (if (if (64 : Int) < at' then (64 : Int) else at') > 0 then (if (64 : Int) < at' then (64 : Int) else at') else 0) = (mt : Int) := by
    rw [← hmt]; unfold cut; split <;> split <;> omega
  have hm64 : mt ≤ 64 := by rw [← hmt]; unfold cut; omega
  have e0 : ∀ x, es.set ls[i].1 (tear 0 es[ls[i].1] x) = es := fun x => by simp [tear]
  have e64 : ∀ n, n ≤ 64 → (List.map cellV es).set ls[i].1 ((cellV es[ls[i].1]).setCells 0 (byN (ls[i].2.take n))) = List.map cellV (es.set ls[i].1 (tear n es[ls[i].1] ls[i].2)) := fun n h => by
    rw [setCells_tear (by omega), ← List.map_set]
  have e65 := e64 64 (Nat.le_refl _)
  rw [List.take_of_length_le (by omega)] at e65
  have hmm : Nat.min 64 mt = mt := Nat.min_eq_right hm64
  rw [eb] at hS
  have hkp : b1 = true → (byN kp)[i / 8]? = some (.int .u8 ((kp.getD (i / 8) 0 : Nat) : Int)) := by
    intro h
    rw [h] at hb1
    have : i / 8 < kp.length := by have := of_decide_eq_true hb1; rw [byN_len] at this; omega
    simp [byN, this]
  rw [byN_len] at hb1
  unfold bitP at hb2
  have h66 : ((64 : Nat) = 0) = False := by simp
  have h67 : Nat.min 64 64 = 64 := rfl
  have e66 := e64 64 (Nat.le_refl _)
  have e67 := e64 mt hm64
  clear eb e64 he hl hn
  obtain ⟨p, hz⟩ : ∃ p : Prop, (mt = 0) = p ∧ (p = True ∨ p = False) := by
    by_cases h : mt = 0
    · exact ⟨True, by simp [h], .inl rfl⟩
    · exact ⟨False, by simp [h], .inr rfl⟩
  obtain ⟨hz, hp⟩ := hz
  have hz0 : p = True → mt = 0 := by intro h; rw [h] at hz; simpa using hz
  have tw := take_by hw2
  have t64 := take_by h64
  have dw := drop_by hw2
  have d64 := drop_by h64
  have hmz := Nat.min_zero
  rcases hp with rfl | rfl
  all_goals try (obtain rfl := hz0 rfl)
  all_goals cases b1
  all_goals first
    | replace hb2 := hb2 rfl
    | skip
  all_goals first
    | replace hkp := hkp rfl
    | skip
  all_goals cases b2 <;> cases b3
  all_goals cases fz
  all_goals simp only [Bool.false_and, Bool.and_false, Bool.and_self, Bool.false_eq_true, if_true, if_false, e0] at hS
  all_goals
    unfold SFa bodyFa
    refine runV (And.intro hlt (And.intro hinc (And.intro hw2 (And.intro h64 (And.intro h1 (And.intro h2 (And.intro tw (And.intro t64 (And.intro dw (And.intro hq (And.intro hr (And.intro hb1 (And.intro hb2 (And.intro hb3 (And.intro hkp (And.intro hx (And.intro hmm h67))))))))))))))))) (And.intro hz h66) ?_
    (try rw [e67]); (try rw [e66]); refine Qr_n (i + 1) ?_ hj; rw [hS]; kernel_rfl
end
def many (kp : List Nat) (torn at' : Int) (k : Nat) : Nat := if ((k : Int) == torn) = true then cut at' else if (decide (((k / 8 : Nat) : Int) < ((byN kp).length : Int)) && bitP (kp.getD (k / 8) 0) (k % 8)) = true then 64 else 0
def flA (kp : List Nat) (torn at' : Int) (es : List (List Nat)) (ls : List (Nat × List Nat)) : Nat → List (List Nat)
  | 0 => es
  | i + 1 => match ls[i]? with
    | some w => (flA kp torn at' es ls i).set w.1 (tear (many kp torn at' i) (flA kp torn at' es ls i)[w.1]! w.2)
    | none => flA kp torn at' es ls i
theorem flA_len (kp : List Nat) (torn at' : Int) (es : List (List Nat)) (ls : List (Nat × List Nat)) (i : Nat) : (flA kp torn at' es ls i).length = es.length := by
  induction i with
  | zero => rfl
  | succ i ih => simp only [flA]; split <;> simp [ih]
theorem tear_len {n : Nat} {old new : List Nat} (h1 : old.length = 64) (h2 : new.length = 64) : (tear n old new).length = 64 := by simp [tear, h1, h2]; omega
theorem flA_64 {kp : List Nat} {torn at' : Int} {es : List (List Nat)} {ls : List (Nat × List Nat)} (he : ∀ c ∈ es, c.length = 64) (hl : ∀ w ∈ ls, w.1 < es.length ∧ w.2.length = 64) (i : Nat) : ∀ c ∈ flA kp torn at' es ls i, c.length = 64 := by
  induction i with
  | zero => exact he
  | succ i ih =>
    simp only [flA]
    split
    · rename_i w hw
      have hw' := hl w (List.mem_of_getElem? hw)
      intro c hc
      rcases List.mem_or_eq_of_mem_set hc with h | h
      · exact ih c h
      · rw [h]
        refine tear_len ?_ hw'.2
        have hlt : w.1 < (flA kp torn at' es ls i).length := by rw [flA_len]; exact hw'.1
        rw [getElem!_pos (flA kp torn at' es ls i) w.1 hlt]
        exact ih _ (List.getElem_mem _)
    · exact ih
section
variable (G : VProg)
theorem fail (hG : G 21 = some (.code v21)) (kp : List Nat) (torn at' : Int) (es fz ls off left) (he : ∀ c ∈ es, c.length = 64) (hl : ∀ w ∈ ls, w.1 < es.length ∧ w.2.length = 64) (hn : ls.length < 2 ^ 40) :
    lim G 21 [q0, .isl 0 1 (byN kp), .int .i64 torn, .int .i64 at'] [plateO es fz ls off left] = some (.tup [], [plateO (flA kp torn at' es ls ls.length) false [] false (-1)]) := by
  cases fz
  case false =>
    refine lim_fun hG (h := runV trivial trivial ?_)
    refine WL_loop (fun i => SFa kp torn at' (flA kp torn at' es ls i) false ls off left i) (fun i => i ≤ ls.length) (fun i => ls.length - i) ?_ 0 _ (Nat.zero_le _) (by kernel_rfl)
    intro i hi
    by_cases h : i < ls.length
    · refine fa_round G kp torn at' _ false ls off left (flA_64 he hl i) (fun w hw => by rw [flA_len]; exact hl w hw) hn i h _ _ _ rfl (fun _ => rfl) rfl _ rfl _ _ ⟨by omega, by omega⟩ _ ?_
      simp only [flA, List.getElem?_eq_getElem h, many]
    · obtain rfl : i = ls.length := by omega
      have hlt : decide ((ls.length : Int) < ls.length) = false := by simp
      unfold SFa
      refine runV hlt trivial ?_
      refine Qr_x ?_
      refine Qb_x (σ1 := ⟨(q0 :: .gone 0 :: .gone 0 :: .gone 0 :: .gone 0 :: .gone 0 :: .gone 0 :: .gone 0 :: .gone 0 :: .gone 0 :: .gone 0 :: .gone 0 :: .gone 0 :: .gone 0 :: .gone 0 :: .gone 0 :: .gone 0 :: .gone 0 :: .gone 0 :: .gone 0 :: .gone 0 :: .gone 0 :: .gone 0 :: .gone 0 :: .gone 0 :: .gone 0 :: .gone 0 :: .gone 0 :: .gone 0 :: .gone 0 :: .gone 0 :: .gone 0 :: .gone 0 :: .gone 0 :: .gone 0 :: .gone 0 :: .gone 0 :: .gone 0 :: .gone 0 :: .gone 0 :: .gone 0 :: .gone 0 :: .gone 0 :: .gone 0 :: .gone 0 :: .gone 0 :: .gone 0 :: .gone 0 :: .gone 0 :: .gone 0 :: .gone 0 :: .gone 0 :: .gone 0 :: .gone 0 :: .gone 0 :: .gone 0 :: .gone 0 :: .gone 0 :: .gone 0 :: .gone 0 :: .gone 0 :: .gone 0 :: .gone 0 :: .gone 0 :: .gone 0 :: .gone 0 :: []), [some (plateO (flA kp torn at' es ls ls.length) false ls off left), none]⟩) (by kernel_rfl) ?_
      exact runV trivial trivial trivial
  case true =>
    refine lim_fun hG (h := runV trivial trivial ?_)
    refine WL_loop (fun i => SFa kp torn at' (flA kp torn at' es ls i) true ls off left i) (fun i => i ≤ ls.length) (fun i => ls.length - i) ?_ 0 _ (Nat.zero_le _) (by kernel_rfl)
    intro i hi
    by_cases h : i < ls.length
    · refine fa_round G kp torn at' _ true ls off left (flA_64 he hl i) (fun w hw => by rw [flA_len]; exact hl w hw) hn i h _ _ _ rfl (fun _ => rfl) rfl _ rfl _ _ ⟨by omega, by omega⟩ _ ?_
      simp only [flA, List.getElem?_eq_getElem h, many]
    · obtain rfl : i = ls.length := by omega
      have hlt : decide ((ls.length : Int) < ls.length) = false := by simp
      unfold SFa
      refine runV hlt trivial ?_
      refine Qr_x ?_
      refine Qb_x (σ1 := ⟨(q0 :: .gone 0 :: .gone 0 :: .gone 0 :: .gone 0 :: .gone 0 :: .gone 0 :: .gone 0 :: .gone 0 :: .gone 0 :: .gone 0 :: .gone 0 :: .gone 0 :: .gone 0 :: .gone 0 :: .gone 0 :: .gone 0 :: .gone 0 :: .gone 0 :: .gone 0 :: .gone 0 :: .gone 0 :: .gone 0 :: .gone 0 :: .gone 0 :: .gone 0 :: .gone 0 :: .gone 0 :: .gone 0 :: .gone 0 :: .gone 0 :: .gone 0 :: .gone 0 :: .gone 0 :: .gone 0 :: .gone 0 :: .gone 0 :: .gone 0 :: .gone 0 :: .gone 0 :: .gone 0 :: .gone 0 :: .gone 0 :: .gone 0 :: .gone 0 :: .gone 0 :: .gone 0 :: .gone 0 :: .gone 0 :: .gone 0 :: .gone 0 :: .gone 0 :: .gone 0 :: .gone 0 :: .gone 0 :: .gone 0 :: .gone 0 :: .gone 0 :: .gone 0 :: .gone 0 :: .gone 0 :: .gone 0 :: .gone 0 :: .gone 0 :: .gone 0 :: .gone 0 :: []), [some (plateO (flA kp torn at' es ls ls.length) true ls off left), none]⟩) (by kernel_rfl) ?_
      exact runV trivial trivial trivial
end
end P1
end Go.Vq
namespace Go.Vq
section
variable {keep ids big : List Nat} {base : Nat} {σ : St}
def clr1 (x : Option Obj) : Option Obj := match x with | some (.cells _) => some (.cells []) | x => x
def clr (big : List Nat) (σ : St) : St := { σ with objs := σ.objs.mapIdx fun i x => if big.contains i then clr1 x else x }
def rebaseB (big keep : List Nat) (base : Nat) (σ : St) : St :=
  let r := rebase keep base (clr big σ)
  { r with objs := r.objs.mapIdx fun i x => if big.contains i then (match x with | some _ => σ.objs.getD i none | none => none) else x }
theorem flat_reb {u : V} (h : u.flat = true) : reb1 keep ids σ u = u := by cases u <;> first | rfl | cases h
theorem flat_rebs {cs : List V} (h : ∀ u ∈ cs, u.flat = true) : cs.map (reb1 keep ids σ) = cs := by
  have : cs.map (reb1 keep ids σ) = cs.map id := List.map_congr_left fun u hu => flat_reb (h u hu)
  rw [this, List.map_id]
theorem flat_roots {cs : List V} (h : ∀ u ∈ cs, u.flat = true) : V.roots (.agg cs) = [] := by
  unfold V.roots
  rw [List.flatMap_eq_nil_iff]
  intro u hu
  have := h u (by simpa [V.leaves] using hu)
  cases u <;> first | rfl | cases this
theorem clr_obj (o : Nat) : (clr big σ).obj o = if big.contains o then clr1 (σ.obj o) else σ.obj o := by
  simp only [clr, St.obj, List.getD_eq_getElem?_getD, List.getElem?_mapIdx]
  cases σ.objs[o]? with
  | none => simp [clr1]
  | some x => simp
abbrev BigOk (big : List Nat) (σ : St) : Prop := ∀ j ∈ big, ∃ cs, σ.objs[j]? = some (some (.cells cs)) ∧ ∀ u ∈ cs, u.flat = true
theorem big_obj (hb : BigOk big σ) {o : Nat} (h : big.contains o = true) : ∃ cs, σ.obj o = some (.cells cs) ∧ ∀ u ∈ cs, u.flat = true := by
  obtain ⟨cs, h1, h2⟩ := hb o (by simpa using h)
  exact ⟨cs, by simp [St.obj, List.getD_eq_getElem?_getD, h1], h2⟩
theorem clr_home (hb : BigOk big σ) (h : Home) (g : Nat) : homeOk keep ids (clr big σ) h g = homeOk keep ids σ h g := by
  cases h with
  | slot s off => rfl
  | obj o off =>
    simp only [homeOk, clr_obj]
    cases hc : big.contains o with
    | false => rfl
    | true =>
      obtain ⟨cs, h1, h2⟩ := big_obj hb hc
      simp only [if_true, h1, clr1, List.getElem?_nil]
      cases hx : cs[off]? with
      | none => rfl
      | some u =>
        have := h2 u (List.mem_of_getElem? hx)
        cases u <;> first | rfl | cases this
theorem clr_reb1 (hb : BigOk big σ) (v : V) : reb1 keep ids (clr big σ) v = reb1 keep ids σ v := by
  cases v with
  | srf => simp only [reb1, clr_home hb]
  | ptr r => cases r <;> simp only [reb1, clr_home hb]
  | asl r => cases r <;> simp only [reb1, clr_home hb]
  | _ => rfl
theorem clr_rebSlots (hb : BigOk big σ) : ∀ (vs : List V) (i : Nat), rebSlots keep ids (clr big σ) i vs = rebSlots keep ids σ i vs
  | [], _ => rfl
  | v :: vs, i => by
    simp only [rebSlots, clr_rebSlots hb vs (i + 1)]
    congr 1
    have : reb1 keep ids (clr big σ) = reb1 keep ids σ := funext fun u => clr_reb1 hb u
    rw [this]
def rootsO (x : Option Obj) : List Nat := match x with | some (.cells cs) => V.roots (.agg cs) | _ => []
def moreO (f : Nat → List Nat) (l : List Nat) : List Nat := (l ++ l.flatMap f).eraseDups
theorem kept_eq : keptObjs keep σ base = moreO (fun o => rootsO (σ.obj o)) (moreO (fun o => rootsO (σ.obj o)) (moreO (fun o => rootsO (σ.obj o)) (List.range base ++ keep.flatMap fun s => (σ.slot s).roots))) := rfl
theorem clr_kept (hb : BigOk big σ) : keptObjs keep (clr big σ) base = keptObjs keep σ base := by
  have e : (fun o => rootsO ((clr big σ).obj o)) = fun o => rootsO (σ.obj o) := by
    funext o
    rw [clr_obj]
    cases hc : big.contains o with
    | false => rfl
    | true =>
      obtain ⟨cs, h1, h2⟩ := big_obj hb hc
      simp only [if_true, h1, clr1, rootsO]
      rw [flat_roots h2]
      rfl
  rw [kept_eq, kept_eq, e]
  rfl
theorem rebaseB_eq (big : List Nat) (hb : BigOk big σ) : rebase keep base σ = rebaseB big keep base σ := by
  unfold rebaseB rebase
  simp only [clr_kept hb, clr_rebSlots hb]
  have hs : (clr big σ).slots = σ.slots := rfl
  rw [hs]
  congr 1
  apply List.ext_getElem?
  intro i
  simp only [clr, List.getElem?_mapIdx, Option.map_map]
  cases hx : σ.objs[i]? with
  | none => rfl
  | some x =>
    simp only [Option.map_some, Function.comp, Option.some.injEq]
    cases hc : big.contains i with
    | true =>
      obtain ⟨cs, h1, h2⟩ := hb i (by simpa using hc)
      rw [hx] at h1
      cases h1
      cases hi : (keptObjs keep σ base).contains i with
      | true => simp [clr1, rebObj, flat_rebs h2, List.getD_eq_getElem?_getD, hx]
      | false => simp
    | false =>
      have : reb1 keep (keptObjs keep σ base) { slots := σ.slots, objs := σ.objs.mapIdx fun i x => if big.contains i then clr1 x else x } = reb1 keep (keptObjs keep σ base) σ := funext fun u => clr_reb1 hb u
      simp only [Bool.false_eq_true, if_false]
      cases x with
      | none => rfl
      | some x => cases x <;> simp only [rebObj, this]
theorem flat_byN (l : List Nat) : ∀ u ∈ byN l, u.flat = true := by
  intro u hu
  simp only [byN, List.mem_map] at hu
  obtain ⟨x, _, rfl⟩ := hu
  rfl
end
theorem rows_len : ∀ (cs : List (List Nat)), (∀ c ∈ cs, c.length = 64) → cs.flatten.length = cs.length * 64
  | [], _ => rfl
  | c :: cs, h => by
    rw [List.flatten_cons, List.length_append, rows_len cs fun x hx => h x (by simp [hx]), h c (by simp), List.length_cons]
    omega
theorem flat_split (cs : List (List Nat)) (h : ∀ c ∈ cs, c.length = 64) (k : Nat) (hk : k < cs.length) : cs.flatten = (cs.take k).flatten ++ (cs[k] ++ (cs.drop (k + 1)).flatten) ∧ (cs.take k).flatten.length = k * 64 := by
  constructor
  · rw [← List.flatten_cons, ← List.drop_eq_getElem_cons hk, ← List.flatten_append, List.take_append_drop]
  · rw [rows_len _ fun c hc => h c (List.mem_of_mem_take hc), List.length_take, Nat.min_eq_left (by omega)]
theorem flat_take (cs : List (List Nat)) (h : ∀ c ∈ cs, c.length = 64) (k : Nat) (hk : k < cs.length) : List.take 64 (List.drop (k * 64) (byN cs.flatten)) = byN cs[k] := by
  obtain ⟨e, hl⟩ := flat_split cs h k hk
  rw [e, byN_drop, byN_take, ← hl, List.drop_left, List.take_left' (h _ (List.getElem_mem _))]
theorem flat_splice (cs : List (List Nat)) (h : ∀ c ∈ cs, c.length = 64) (k : Nat) (hk : k < cs.length) (c : List Nat) (hc : c.length = 64) : splice (byN cs.flatten) (k * 64) (byN c) = byN (cs.set k c).flatten := by
  obtain ⟨e, hl⟩ := flat_split cs h k hk
  have h2 : ∀ d ∈ cs.set k c, d.length = 64 := fun d hd => by
    rcases List.mem_or_eq_of_mem_set hd with hd | rfl
    · exact h d hd
    · exact hc
  obtain ⟨e2, hl2⟩ := flat_split (cs.set k c) h2 k (by simpa using hk)
  have e3 : (cs.set k c).take k = cs.take k := by rw [List.take_set]; exact List.set_eq_of_length_le (by rw [List.length_take]; omega)
  have e4 : (cs.set k c).drop (k + 1) = cs.drop (k + 1) := by rw [List.drop_set_of_lt (by omega)]
  rw [e2, e3, e4, List.getElem_set_self]
  unfold splice
  rw [byN_len, hc, byN_drop, byN_take]
  have t1 : List.take (k * 64) cs.flatten = (cs.take k).flatten := by rw [e, ← hl, List.take_left]
  have t2 : List.drop (k * 64 + 64) cs.flatten = (cs.drop (k + 1)).flatten := by
    rw [e, ← List.append_assoc, List.drop_left' (by rw [List.length_append, hl, h _ (List.getElem_mem _)])]
  rw [t1, t2]
  simp [byN]
end Go.Vq
namespace Go.Vq
namespace P1
open Go
set_option maxRecDepth 1000000
set_option maxHeartbeats 8000000
abbrev b17 : VCode := .seq (.region [⟨some 2, .alloc 0 (Z8 64), none, 0⟩] false) (.seq (.region [⟨some 5, .build (Z8 64) [], none, 0⟩, ⟨some 3, .alloc 1 (Z8 64), none, 0⟩, ⟨none, .store 64 (.tmp 3) (.tmp 5), none, 3⟩] false) (.seq (.seq (.region [⟨some 6, .move (.val (.int .i64 0)), none, 0⟩] false) (.block 0 (some [0, 2, 3]) (.loop (some [0, 2, 3, 6]) (.seq (.region [⟨some 7, .bin (.lss) (.tmp 6) (.val (.int .i64 64)), none, 0⟩] false) (.seq (.cond (.tmp 7) (.skip) (.exit 0)) (.seq (.block 1 none (.seq (.region [⟨some 8, .move (.tmp 6), none, 0⟩, ⟨some 4, .assign (.tmp 8), none, 1⟩] false) (.region [⟨some 9, .move (.tmp 4), none, 0⟩, ⟨some 10, .move (.tmp 0), none, 0⟩, ⟨some 11, .indexAddr (some 64) 1 (.tmp 3) (.tmp 9), none, 3⟩, ⟨none, .store 1 (.tmp 11) (.tmp 10), none, 7⟩] false))) (.region [⟨some 12, .bin (.add) (.tmp 6) (.val (.int .i64 1)), none, 0⟩, ⟨some 6, .move (.tmp 12), none, 1⟩] false))))))) (.seq (.region [⟨some 13, .move (.tmp 0), none, 0⟩, ⟨some 14, .bin (.add) (.tmp 13) (.val (.int .u8 1)), none, 1⟩, ⟨some 15, .indexAddr (some 64) 1 (.tmp 3) (.val (.int .i64 0)), none, 3⟩, ⟨none, .store 1 (.tmp 15) (.tmp 14), none, 7⟩] false) (.seq (.region [⟨some 16, .load true 64 (.tmp 3), none, 0⟩, ⟨none, .store 64 (.tmp 2) (.tmp 16), none, 1⟩] false) (.ret)))))
abbrev v17 : VFunc := { nparams := 1, ntmps := 17, nsites := 2, results := [.cell 2 true 64], body := b17 }
def cellOf (v : Nat) : List Nat := (v + 1) % 256 :: List.replicate 63 v
theorem cellOf_len (v : Nat) : (cellOf v).length = 64 := by simp [cellOf]
section
variable (G : VProg)
def fillN (v k : Nat) : List Nat := List.replicate k v ++ List.replicate (64 - k) 0
def SCe (v k : Nat) : St := ⟨(.int .u8 v :: .gone 0 :: .ptr (.obj 0 0) :: .ptr (.obj 1 0) :: .gone 0 :: .gone 0 :: .int .i64 k :: .gone 0 :: .gone 0 :: .gone 0 :: .gone 0 :: .gone 0 :: .gone 0 :: .gone 0 :: .gone 0 :: .gone 0 :: .gone 0 :: []), [some (.cells (byN (List.replicate 64 0))), some (.cells (byN (fillN v k)))]⟩
theorem lcell (hG : G 17 = some (.code v17)) (v : Nat) (hv : v < 256) : lim G 17 [.int .u8 v] [] = some (cellV (cellOf v), []) := by
  refine lim_fun hG (h := runV trivial trivial ?_)
  refine WL_loop (SCe v) (fun k => k ≤ 64) (fun k => 64 - k) ?_ 0 _ (Nat.zero_le _) (by kernel_rfl)
  intro k hk
  have hlen : (fillN v k).length = 64 := by simp [fillN]; omega
  by_cases hlt : k < 64
  · have c1 : decide ((k : Int) < 64) = true := by simp; omega
    have i1 := inc64 k (by omega)
    have e1 : fillN v k = List.replicate k v ++ 0 :: List.replicate (63 - k) 0 := by
      unfold fillN
      rw [show 64 - k = (63 - k) + 1 by omega, List.replicate_succ]
    have f1 : List.take 1 (List.drop (k * 1) (byN (fillN v k))) = [.int .u8 0] := by
      rw [Nat.mul_one, byN_drop, byN_take, e1, List.drop_left' (by simp)]
      rfl
    have f2 : splice (byN (fillN v k)) (k * 1) [.int .u8 (v : Int)] = byN (fillN v (k + 1)) := by
      unfold splice
      rw [Nat.mul_one, List.length_singleton, byN_drop, byN_take, e1, List.take_left' (by simp)]
      have e2 : List.drop (k + 1) (List.replicate k v ++ 0 :: List.replicate (63 - k) 0) = List.replicate (63 - k) 0 := by
        rw [← List.drop_drop, List.drop_left' (by simp)]
        rfl
      rw [e2]
      unfold fillN
      rw [show 64 - (k + 1) = 63 - k by omega, List.replicate_succ']
      simp [byN]
    have f3 : regens (List.take 1 (List.drop (k * 1) (byN (fillN v k)))) [.int .u8 (v : Int)] = some [.int .u8 (v : Int)] := by rw [f1]; rfl
    obtain ⟨bs, hbs⟩ : ∃ bs, bs = fillN v k := ⟨_, rfl⟩
    obtain ⟨bs2, hbs2⟩ : ∃ bs, bs = fillN v (k + 1) := ⟨_, rfl⟩
    have hki : (0 : Int) ≤ (k : Int) ∧ (k : Int) < 64 := by omega
    have hlen2 : (byN (fillN v k)).length = 64 := by rw [byN_len]; exact hlen
    unfold SCe
    refine runV (And.intro c1 (And.intro i1 (And.intro f3 (And.intro f2 hlen2)))) (And.intro hki (by omega : k * 1 + 1 ≤ 64)) ?_
    refine Qr_n (k + 1) ?_ ⟨by omega, by omega⟩
    have f4 : byN (List.take (k * 1) (fillN v k)) ++ [V.int .u8 (v : Int)] ++ List.drop (k * 1 + 1) (byN (fillN v k)) = byN (fillN v (k + 1)) := by
      rw [← f2, ← byN_take]; rfl
    rw [f4]
    exact (rebaseB_eq [0, 1] (by
      intro j hj
      simp only [List.mem_cons, List.not_mem_nil, or_false] at hj
      rcases hj with rfl | rfl
      · exact ⟨_, rfl, flat_byN _⟩
      · exact ⟨_, rfl, flat_byN _⟩)).trans (by kernel_rfl)
  · obtain rfl : k = 64 := by omega
    have c1 : decide (((64 : Nat) : Int) < 64) = false := by decide
    unfold SCe
    refine runV c1 trivial ?_
    refine Qr_x ?_
    refine Qb_x (σ1 := ⟨(.int .u8 v :: .gone 0 :: .ptr (.obj 0 0) :: .ptr (.obj 1 0) :: .gone 0 :: .gone 0 :: .gone 0 :: .gone 0 :: .gone 0 :: .gone 0 :: .gone 0 :: .gone 0 :: .gone 0 :: .gone 0 :: .gone 0 :: .gone 0 :: .gone 0 :: []), [some (.cells (byN (List.replicate 64 0))), some (.cells (byN (fillN v 64)))]⟩) ((rebaseB_eq [0, 1] (by
      intro j hj
      simp only [List.mem_cons, List.not_mem_nil, or_false] at hj
      rcases hj with rfl | rfl
      · exact ⟨_, rfl, flat_byN _⟩
      · exact ⟨_, rfl, flat_byN _⟩)).trans (by kernel_rfl)) ?_
    have hw : IntKind.u8.wrap ((v : Int) + 1) = (((v + 1) % 256 : Nat) : Int) := by
      simp only [IntKind.wrap, IntKind.bits, IntKind.signed]
      simp
      try omega
    have e2 : fillN v 64 = v :: List.replicate 63 v := by simp [fillN, List.replicate_succ]
    rw [e2]
    have hr : (List.replicate 63 v).length = 63 := by simp
    obtain ⟨rs, hrs⟩ : ∃ rs, rs = List.replicate 63 v := ⟨_, rfl⟩
    unfold cellOf
    rw [← hrs] at hr ⊢
    have f5 : byN (List.take (0 * 1) (v :: rs)) ++ [V.int .u8 (((v + 1) % 256 : Nat) : Int)] ++ List.drop (0 * 1 + 1) (byN (v :: rs)) = byN ((v + 1) % 256 :: rs) := rfl
    have f6 : List.take 64 (byN ((v + 1) % 256 :: rs)) = byN ((v + 1) % 256 :: rs) := by rw [byN_take, List.take_of_length_le (by simp [hr])]
    have h64 : ((v + 1) % 256 :: rs).length = 64 := by simp [hr]
    obtain ⟨cs, hcs⟩ : ∃ cs, cs = (v + 1) % 256 :: rs := ⟨_, rfl⟩
    rw [← hcs] at f5 f6 h64 ⊢
    refine runV (And.intro hw (And.intro f5 (And.intro f6 (And.intro h64 hr)))) trivial ?_
    clear hcs f5 f6
    obtain ⟨g, rfl⟩ := exN h64
    exact Qe_r (by kernel_rfl)
end
end P1
end Go.Vq
