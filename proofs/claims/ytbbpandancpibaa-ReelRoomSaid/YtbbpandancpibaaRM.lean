/- Proved: ReelRoom answers true for any arguments, whatever the world it is called in; no condition. -/
import Derived.Test.YtbbpandancpibaaRows
import Derived.Test.YtbbpandancpibaaK
import Derived.Test.YtbbpandancpibaaF23
import Derived.WalkKit
import Derived.ProofKit
import Derived.OpenShut
import Derived.ShutString
set_option linter.unusedVariables false
set_option linter.unusedSimpArgs false
namespace Go.Vq
namespace P1
open Go
set_option maxRecDepth 1000000
set_option maxHeartbeats 8000000
abbrev b9 : VCode := .seq (.region [⟨some 4, .assign (.val (.bool false)), none, 0⟩] false) (.seq (.seq (.region [⟨some 11, .call true 33 0 [], none, 0⟩, ⟨some 12, .un (.not) (.tmp 11), none, 1⟩] false) (.cond (.tmp 12) (.seq (.region [⟨some 4, .assign (.val (.bool false)), none, 0⟩] false) (.ret)) (.skip))) (.seq (.seq (.region [⟨some 13, .move (.tmp 0), none, 0⟩, ⟨some 14, .bin (.lss) (.tmp 13) (.val (.int .i64 4)), none, 1⟩, ⟨some 15, .move (.tmp 14), none, 3⟩, ⟨some 16, .move (.tmp 0), some (15, false), 7⟩, ⟨some 17, .bin (.gtr) (.tmp 16) (.val (.int .i64 200)), some (15, false), 15⟩, ⟨some 18, .pick (.tmp 15) (.val (.bool true)) (.tmp 17), none, 31⟩, ⟨some 19, .move (.tmp 18), none, 63⟩, ⟨some 20, .move (.tmp 1), some (19, false), 127⟩, ⟨some 21, .bin (.lss) (.tmp 20) (.val (.int .i64 0)), some (19, false), 255⟩, ⟨some 22, .pick (.tmp 19) (.val (.bool true)) (.tmp 21), none, 511⟩, ⟨some 23, .move (.tmp 22), none, 1023⟩, ⟨some 24, .move (.tmp 1), some (23, false), 2047⟩, ⟨some 25, .bin (.gtr) (.tmp 24) (.val (.int .i64 400)), some (23, false), 4095⟩, ⟨some 26, .pick (.tmp 23) (.val (.bool true)) (.tmp 25), none, 8191⟩] false) (.cond (.tmp 26) (.seq (.region [⟨some 4, .assign (.val (.bool true)), none, 0⟩] false) (.ret)) (.skip))) (.seq (.region [⟨some 28, .move (.tmp 0), none, 0⟩, ⟨some 29, .call false 13 0 [(.tmp 28)], none, 1⟩, ⟨some 30, .call false 34 4 [(.tmp 29)], none, 3⟩, ⟨some 27, .move (.tmp 30), none, 7⟩, ⟨some 31, .extract (.tmp 27) 0, none, 15⟩, ⟨some 32, .extract (.tmp 27) 1, none, 15⟩, ⟨some 33, .extract (.tmp 27) 2, none, 15⟩, ⟨some 5, .assign (.tmp 31), none, 31⟩, ⟨some 6, .assign (.tmp 32), none, 191⟩, ⟨some 7, .assign (.tmp 33), none, 511⟩] false) (.seq (.seq (.region [⟨some 34, .move (.tmp 5), none, 0⟩, ⟨some 35, .call false 35 8 [(.tmp 34), (.val (.nilS 1))], none, 1⟩, ⟨some 36, .eq true (.num) (.tmp 35) (.val (.int .i64 0)), none, 3⟩] false) (.cond (.tmp 36) (.seq (.region [⟨some 4, .assign (.val (.bool false)), none, 0⟩] false) (.ret)) (.skip))) (.seq (.region [⟨some 37, .move (.tmp 0), none, 0⟩, ⟨some 38, .bin (.quo) (.tmp 37) (.val (.int .i64 2)), none, 1⟩, ⟨some 39, .bin (.sub) (.tmp 38) (.val (.int .i64 1)), none, 3⟩, ⟨some 40, .move (.tmp 1), none, 0⟩, ⟨some 41, .call true 38 8 [(.tmp 40)], none, 8⟩, ⟨some 42, .bin (.quo) (.tmp 39) (.tmp 41), none, 31⟩, ⟨some 8, .assign (.tmp 42), none, 63⟩] false) (.seq (.seq (.region [⟨some 9, .assign (.val (.int .i64 0)), none, 0⟩] false) (.block 0 (some [0, 1, 5, 8, 31]) (.loop (some [0, 1, 5, 8, 9, 31]) (.seq (.seq (.region [⟨some 43, .move (.tmp 9), none, 0⟩, ⟨some 44, .move (.tmp 8), none, 0⟩, ⟨some 45, .bin (.lss) (.tmp 43) (.tmp 44), none, 3⟩] false) (.cond (.tmp 45) (.skip) (.exit 0))) (.seq (.block 1 none (.seq (.region [⟨some 48, .move (.tmp 5), none, 0⟩, ⟨some 49, .move (.tmp 1), none, 0⟩, ⟨some 50, .makeSlice 1 1 (.int .u8 0) (.tmp 49) (.tmp 49), none, 2⟩, ⟨some 51, .call false 36 8 [(.tmp 48), (.tmp 50)], none, 7⟩, ⟨some 52, .eq true (.num) (.tmp 51) (.val (.int .i64 0)), none, 15⟩] false) (.cond (.tmp 52) (.seq (.region [⟨some 4, .assign (.val (.bool false)), none, 0⟩] false) (.ret)) (.skip)))) (.region [⟨some 46, .move (.tmp 9), none, 0⟩, ⟨some 47, .bin (.add) (.tmp 46) (.val (.int .i64 1)), none, 1⟩, ⟨some 9, .assign (.tmp 47), none, 3⟩] false)))))) (.seq (.region [⟨some 53, .move (.tmp 5), none, 0⟩, ⟨some 54, .call false 39 8 [(.tmp 53)], none, 1⟩, ⟨some 10, .assign (.tmp 54), none, 3⟩] false) (.seq (.region [⟨some 55, .move (.tmp 10), none, 0⟩, ⟨some 56, .move (.tmp 0), none, 0⟩, ⟨some 57, .bin (.quo) (.tmp 56) (.val (.int .i64 2)), none, 2⟩, ⟨some 58, .bin (.sub) (.tmp 57) (.val (.int .i64 1)), none, 6⟩, ⟨some 59, .move (.tmp 8), none, 0⟩, ⟨some 60, .move (.tmp 1), none, 0⟩, ⟨some 61, .call true 38 8 [(.tmp 60)], none, 32⟩, ⟨some 62, .bin (.mul) (.tmp 59) (.tmp 61), none, 112⟩, ⟨some 63, .bin (.sub) (.tmp 58) (.tmp 62), none, 254⟩, ⟨some 64, .eq false (.num) (.tmp 55) (.tmp 63), none, 511⟩, ⟨some 65, .move (.tmp 64), none, 1023⟩, ⟨some 66, .move (.tmp 5), some (65, true), 2047⟩, ⟨some 67, .move (.tmp 1), some (65, true), 2047⟩, ⟨some 68, .makeSlice 1 1 (.int .u8 0) (.tmp 67) (.tmp 67), some (65, true), 6143⟩, ⟨some 69, .call false 36 8 [(.tmp 66), (.tmp 68)], some (65, true), 16383⟩, ⟨some 70, .eq false (.num) (.tmp 69) (.val (.int .i64 92)), some (65, true), 32767⟩, ⟨some 71, .pick (.tmp 65) (.tmp 70) (.val (.bool false)), none, 65535⟩, ⟨some 72, .move (.tmp 71), none, 131071⟩, ⟨some 73, .move (.tmp 5), some (72, true), 262143⟩, ⟨some 74, .call false 39 8 [(.tmp 73)], some (72, true), 524287⟩, ⟨some 75, .move (.tmp 10), some (72, true), 262143⟩, ⟨some 76, .eq false (.num) (.tmp 74) (.tmp 75), some (72, true), 2097151⟩, ⟨some 77, .pick (.tmp 72) (.tmp 76) (.val (.bool false)), none, 4194303⟩, ⟨some 78, .move (.tmp 77), none, 8388607⟩, ⟨some 79, .move (.tmp 5), some (78, true), 16777215⟩, ⟨some 80, .call false 40 8 [(.tmp 79)], some (78, true), 33554431⟩, ⟨some 81, .pick (.tmp 78) (.tmp 80) (.val (.bool false)), none, 67108863⟩, ⟨some 82, .move (.tmp 81), none, 134217727⟩, ⟨some 83, .move (.tmp 10), some (82, true), 268435455⟩, ⟨some 84, .eq false (.num) (.tmp 83) (.val (.int .i64 0)), some (82, true), 536870911⟩, ⟨some 85, .move (.tmp 84), some (82, true), 1073741823⟩, ⟨some 86, .move (.tmp 5), some (85, false), 2147483647⟩, ⟨some 87, .call false 36 8 [(.tmp 86), (.val (.nilS 1))], some (85, false), 4294967295⟩, ⟨some 88, .eq false (.num) (.tmp 87) (.val (.int .i64 0)), some (85, false), 8589934591⟩, ⟨some 89, .pick (.tmp 85) (.val (.bool true)) (.tmp 88), some (82, true), 17179869183⟩, ⟨some 90, .pick (.tmp 82) (.tmp 89) (.val (.bool false)), none, 34359738367⟩, ⟨some 91, .move (.tmp 90), none, 68719476735⟩, ⟨some 92, .move (.tmp 5), some (91, true), 137438953471⟩, ⟨some 93, .call false 37 8 [(.tmp 92)], some (91, true), 274877906943⟩, ⟨some 94, .eq false (.num) (.tmp 93) (.val (.int .i64 0)), some (91, true), 549755813887⟩, ⟨some 95, .pick (.tmp 91) (.tmp 94) (.val (.bool false)), none, 1099511627775⟩, ⟨some 4, .assign (.tmp 95), none, 2199023255551⟩] false) (.ret)))))))))
abbrev v9 : VFunc := { nparams := 2, ntmps := 96, nsites := 8, results := [.tmp 4], body := b9 }
/-! ### the law of the room -/
theorem getC_zero (n : Nat) (i : Int) : getC (List.replicate n zero64) [] i = zero64 := by
  unfold getC
  split
  · simp only [find, List.find?_nil, Option.map_none, Option.getD_none]
    simp only [List.getD_eq_getElem?_getD, List.getElem?_replicate]
    split <;> rfl
  · rfl
theorem topN_zero (n : Nat) : ∀ k, topN (List.replicate n zero64) [] k = 0
  | 0 => rfl
  | k + 1 => by
    simp only [topN, topN_zero n k, getC_zero]
    decide +kernel
theorem readN_zero (n : Nat) (s : Int) : readN (List.replicate n zero64) [] s = (0, []) := by
  unfold readN
  split
  · rfl
  · simp only [getC_zero]
    exact if_pos (.inl (by decide +kernel))
theorem openR_zero (n : Nat) : openR (List.replicate n zero64) [] = (1, []) := by
  unfold openR sideN
  simp only [readN_zero]
  decide
/-- The writes of some pieces. -/
def putL (h s r : Nat) : Nat → List (List Nat) → List (Nat × List Nat)
  | _, [] => []
  | a, c :: cs => (s * h + a, cellM (mkN r a) c) :: putL h s r (a + 1) cs
theorem putL_len (h s r : Nat) : ∀ (cs : List (List Nat)) (a : Nat), (putL h s r a cs).length = cs.length
  | [], _ => rfl
  | c :: cs, a => by simp only [putL, List.length_cons, putL_len h s r cs (a + 1)]
theorem putN_free (h s r : Nat) : ∀ (cs : List (List Nat)) (a : Nat) (ls : List (Nat × List Nat)), putN h s r a cs (ls, false, -1) = (0, ls ++ putL h s r a cs, false, -1)
  | [], _, ls => by simp [putN, putL]
  | c :: cs, a, ls => by
    have e1 : spO false (-1) = false := by decide
    have e2 : spL false (-1) = -1 := by decide
    simp only [putN, e1, e2, Bool.false_eq_true, if_false]
    rw [putN_free h s r cs (a + 1)]
    simp only [putL, List.append_assoc, List.singleton_append]
theorem cellM_len {n : Nat} {c : List Nat} (h : c.length ≤ 48) : (cellM n c).length = 64 := by simp [cellM, le8, pad48_len h]
theorem putL_ok {h s r n : Nat} : ∀ (cs : List (List Nat)) (a : Nat), (∀ c ∈ cs, c.length ≤ 48) → s * h + a + cs.length ≤ n → ∀ w ∈ putL h s r a cs, w.1 < n ∧ w.2.length = 64
  | [], _, _, _ => by simp [putL]
  | c :: cs, a, hc, hn => by
    intro w hw
    simp only [List.length_cons] at hn
    rcases List.mem_cons.1 hw with rfl | hw
    · exact ⟨by simp only; omega, cellM_len (hc c (by simp))⟩
    · exact putL_ok cs (a + 1) (fun c h => hc c (by simp [h])) (by omega) w hw
theorem pieces_48 (b : List Nat) : ∀ c ∈ pieces b, c.length ≤ 48 := by
  intro c hc
  obtain ⟨k, _, rfl⟩ := List.mem_map.1 hc
  simp [chunk48]; omega
/-- What is loose behind k words of a length. -/
def lsK (m : Nat) (fr : List Nat) : Nat → List (Nat × List Nat)
  | 0 => []
  | k + 1 => lsK m fr k ++ putL m 0 1 (1 + cellsN fr.length * k) (pieces fr)
theorem lsK_len (m : Nat) (fr : List Nat) : ∀ k, (lsK m fr k).length = cellsN fr.length * k
  | 0 => by simp [lsK]
  | k + 1 => by simp only [lsK, List.length_append, lsK_len m fr k, putL_len, pieces_len, Nat.mul_succ]
theorem lsK_ok (m n : Nat) (fr : List Nat) : ∀ k, 1 + cellsN fr.length * k ≤ n → ∀ w ∈ lsK m fr k, w.1 < n ∧ w.2.length = 64
  | 0, _ => by simp [lsK]
  | k + 1, hk => by
    rw [Nat.mul_succ] at hk
    intro w hw
    rcases List.mem_append.1 hw with hw | hw
    · exact lsK_ok m n fr k (by omega) w hw
    · exact putL_ok _ _ (pieces_48 fr) (by rw [pieces_len]; omega) w hw
section
variable {G : VProg}
theorem addOk (R : Reel G) (m : Nat) (L : Nat) (es : List (List Nat)) (fr : List Nat) (hfr : fr = frameN 2 (List.replicate L 0)) (hm : m = es.length / 2) (hL : L ≤ 65536) (hn : es.length ≤ 4096) (k : Nat) (hk : 1 + cellsN fr.length * (k + 1) ≤ m) :
    lim G 36 [q0, .isl 0 1 (byN (List.replicate L 0))] [reelO 1 0 1 (1 + cellsN fr.length * k) true, plateO es false (lsK m fr k) false (-1)] = some (.int .i64 0, [reelO 1 0 1 (1 + cellsN fr.length * (k + 1)) true, plateO es false (lsK m fr (k + 1)) false (-1)]) := by
  have lr : LR (-1) := by unfold LR; omega
  rw [Nat.mul_succ] at hk
  have t := R.add 0 1 (1 + cellsN fr.length * k) true (List.replicate L 0) es false (lsK m fr k) false (-1) (by decide) (fun _ => by decide) (by omega) (fun x hx => by rw [List.eq_of_mem_replicate hx]; decide) (by simp; omega) hn lr (by rw [lsK_len]; omega)
  rw [t]
  unfold addR
  rw [← hfr, ← hm]
  simp only [putN_free]
  rw [if_neg (by simp), if_neg (by omega), if_neg (by simp), Nat.mul_succ, Nat.add_assoc]
  rfl
theorem addNo (R : Reel G) (L a : Nat) (es ls) (hL : L ≤ 65536) (hn : es.length ≤ 4096) (ha : a ≤ 4096) (hls : ls.length < 2 ^ 30) (hk : es.length / 2 < a + cellsN (frameN 2 (List.replicate L 0)).length) :
    lim G 36 [q0, .isl 0 1 (byN (List.replicate L 0))] [reelO 1 0 1 a true, plateO es false ls false (-1)] = some (.int .i64 92, [reelO 1 0 1 a true, plateO es false ls false (-1)]) := by
  have lr : LR (-1) := by unfold LR; omega
  have t := R.add 0 1 a true (List.replicate L 0) es false ls false (-1) (by decide) (fun _ => by decide) ha (fun x hx => by rw [List.eq_of_mem_replicate hx]; decide) (by simp; omega) hn lr hls
  rw [t]
  unfold addR
  rw [if_neg (by simp), if_pos hk]
theorem begOk (R : Reel G) (n : Nat) (h4 : 4 ≤ n) (hn : n ≤ 200) : ∃ es : List (List Nat), es.length = n ∧ (∀ c ∈ es, c.length = 64) ∧
    lim G 35 [q0, .isl 0 1 []] [reelO 1 1 0 0 false, plateO (List.replicate n zero64) true [] false (-1)] = some (.int .i64 0, [reelO 1 0 1 1 true, plateO es false [] false (-1)]) := by
  have lr : LR (-1) := by unfold LR; omega
  have hz : ∀ c ∈ List.replicate n zero64, C64 c := fun c hc => by rw [List.eq_of_mem_replicate hc]; exact zero_C
  have pw : PW (List.replicate n zero64) [] := PW.of hz (fun w hw => by simp at hw) (by rw [List.length_replicate]; omega) (by decide)
  have t := R.beg 1 0 0 false [] (List.replicate n zero64) true [] false (-1) (by decide) (by decide) (by decide) pw lr (by decide)
  have hp : cellsN (frameN 1 []).length = 1 := by decide +kernel
  have hl : (pieces (frameN 1 [])).length = 1 := by decide +kernel
  have e1 : spO false (-1) = false := by decide
  have e2 : spL false (-1) = -1 := by decide
  have e : beginR 1 0 0 false [] (List.replicate n zero64) true [] false (-1) = (.int .i64 0, [reelO 1 0 1 1 true, plateO ((putL (n / 2) 0 1 0 (pieces (frameN 1 []))).foldl wr (List.replicate n zero64)) false [] false (-1)]) := by
    unfold beginR
    simp only [topN_zero, putN_free, List.length_replicate, hp, e1, e2, Nat.sub_self, Nat.zero_add, List.nil_append]
    rw [if_neg (by omega), if_neg (by simp), if_neg (by simp)]
  refine ⟨_, ?_, ?_, t.trans (congrArg some e)⟩
  · rw [foldl_wr_len, List.length_replicate]
  · exact foldl_wr_64 (fun c hc => (hz c hc).1) (fun w hw => (putL_ok (n := n) _ _ (pieces_48 _) (by rw [hl]; omega) w hw).2)
def SRo (n L : Int) (w : Nat) (LS : Nat → List (Nat × List Nat)) (AT : Nat → Nat) (es : List (List Nat)) (k : Nat) : St :=
  ⟨(.int .i64 n :: .int .i64 L :: .gone 0 :: .gone 0 :: .gone 0 :: .ptr (.obj 4 0) :: .gone 0 :: .gone 0 :: .int .i64 w :: .int .i64 k :: .gone 0 :: .gone 0 :: .gone 0 :: .gone 0 :: .gone 0 :: .gone 0 :: .gone 0 :: .gone 0 :: .gone 0 :: .gone 0 :: .gone 0 :: .gone 0 :: .gone 0 :: .gone 0 :: .gone 0 :: .gone 0 :: .gone 0 :: .gone 0 :: .gone 0 :: .gone 0 :: .gone 0 :: .ptr (.obj 4 0) :: .gone 0 :: .gone 0 :: .gone 0 :: .gone 0 :: .gone 0 :: .gone 0 :: .gone 0 :: .gone 0 :: .gone 0 :: .gone 0 :: .gone 0 :: .gone 0 :: .gone 0 :: .gone 0 :: .gone 0 :: .gone 0 :: .gone 0 :: .gone 0 :: .gone 0 :: .gone 0 :: .gone 0 :: .gone 0 :: .gone 0 :: .gone 0 :: .gone 0 :: .gone 0 :: .gone 0 :: .gone 0 :: .gone 0 :: .gone 0 :: .gone 0 :: .gone 0 :: .gone 0 :: .gone 0 :: .gone 0 :: .gone 0 :: .gone 0 :: .gone 0 :: .gone 0 :: .gone 0 :: .gone 0 :: .gone 0 :: .gone 0 :: .gone 0 :: .gone 0 :: .gone 0 :: .gone 0 :: .gone 0 :: .gone 0 :: .gone 0 :: .gone 0 :: .gone 0 :: .gone 0 :: .gone 0 :: .gone 0 :: .gone 0 :: .gone 0 :: .gone 0 :: .gone 0 :: .gone 0 :: .gone 0 :: .gone 0 :: .gone 0 :: .gone 0 :: []), [some (plateO es false (LS k) false (-1)), none, none, none, some (reelO 0 0 1 (AT k) true), none, none, none]⟩
theorem roomWalk (hG : G 9 = some (.code v9)) (hA : lim G 33 [] [] = some (.bool true, []))
    (n L : Int) (m m1' c w p d : Nat) (e0 es : List (List Nat)) (LS : Nat → List (Nat × List Nat)) (AT : Nat → Nat) (z : List Nat)
    (b1 : decide (n < 4) = false) (b2 : decide (200 < n) = false) (b3 : decide (L < 0) = false) (b4 : decide (400 < L) = false)
    (t0 : lim G 13 [.int .i64 n] [] = some (q0, [plateO e0 false [] false (-1)]))
    (t1 : lim G 34 [q0] [plateO e0 false [] false (-1)] = some (.tup [.ptr (.obj 1 0), .xsl 0 1 [], .xsl 0 1 []], [plateO e0 true [] false (-1), reelO 0 1 0 0 false]))
    (t2 : lim G 35 [q0, .isl 0 1 []] [reelO 1 1 0 0 false, plateO e0 true [] false (-1)] = some (.int .i64 0, [reelO 1 0 1 1 true, plateO es false [] false (-1)]))
    (t3 : lim G 38 [.int .i64 L] [] = some (.int .i64 c, []))
    (q1 : IntKind.i64.wrap (n.tdiv 2) = (m : Int)) (q2 : IntKind.i64.wrap ((m : Int) - 1) = (m1' : Int)) (q3 : IntKind.i64.wrap ((m1' : Int).tdiv c) = (w : Int)) (q4 : IntKind.i64.wrap ((w : Int) * (c : Int)) = (p : Int)) (q5 : IntKind.i64.wrap ((m1' : Int) - (p : Int)) = (d : Int))
    (y1 : List.replicate L.toNat (V.int .u8 0) = byN z) (y2 : (byN z).length = L.toNat) (y4 : ((c : Int) = 0) = False) (hLb : 0 ≤ L ∧ L ≤ 400) (hw : w ≤ 200)
    (h0 : LS 0 = []) (h1 : AT 0 = 1)
    (a1 : ∀ k, k < w → lim G 36 [q0, .isl 0 1 (byN z)] [reelO 1 0 1 (AT k) true, plateO es false (LS k) false (-1)] = some (.int .i64 0, [reelO 1 0 1 (AT (k + 1)) true, plateO es false (LS (k + 1)) false (-1)]))
    (a2 : lim G 36 [q0, .isl 0 1 (byN z)] [reelO 1 0 1 (AT w) true, plateO es false (LS w) false (-1)] = some (.int .i64 92, [reelO 1 0 1 (AT w) true, plateO es false (LS w) false (-1)]))
    (l1 : lim G 39 [q0] [reelO 1 0 1 (AT w) true, plateO es false (LS w) false (-1)] = some (.int .i64 d, [reelO 1 0 1 (AT w) true, plateO es false (LS w) false (-1)]))
    (r1 : lim G 40 [q0] [reelO 1 0 1 (AT w) true, plateO es false (LS w) false (-1)] = some (.bool true, [reelO 1 0 1 (AT w) true, plateO es false (LS w) false (-1)]))
    (fin : (d = 0 ∧ ∃ es4 : List (List Nat), lim G 37 [q0] [reelO 1 0 1 (AT w) true, plateO es false (LS w) false (-1)] = some (.int .i64 0, [reelO 1 0 1 (AT w) true, plateO es4 false [] false (-1)])) ∨
      (d ≠ 0 ∧ ∃ ls4 : List (Nat × List Nat), ∃ es4 : List (List Nat), lim G 36 [q0, .isl 0 1 []] [reelO 1 0 1 (AT w) true, plateO es false (LS w) false (-1)] = some (.int .i64 0, [reelO 1 0 1 (AT w + 1) true, plateO es false ls4 false (-1)]) ∧
        lim G 37 [q0] [reelO 1 0 1 (AT w + 1) true, plateO es false ls4 false (-1)] = some (.int .i64 0, [reelO 1 0 1 (AT w + 1) true, plateO es4 false [] false (-1)]))) :
    Vq.lim G 9 [.int .i64 n, .int .i64 L] [] = some (.bool true, []) := by
  have m1 : (0 : Int) ≤ L := by omega
  have m2 : L * 1 ≤ 140737488355328 := by omega
  have m3 : L < 9223372036854775808 := by omega
  have M := And.intro m1 (And.intro m2 m3)
  have q3' : binV .quo (.int .i64 m1') (.int .i64 c) = some (.int .i64 w) := by
    simp only [binV]
    rw [if_pos trivial, if_neg (by rw [y4]; exact id), q3]
  have y3 : List.take L.toNat z = z := List.take_of_length_le (by rw [← y2, byN_len]; exact Nat.le_refl _)
  have F := And.intro b1 (And.intro b2 (And.intro b3 (And.intro b4 (And.intro q1 (And.intro q2 (And.intro q3' (And.intro q4 (And.intro q5 (And.intro y1 (And.intro y2 (And.intro y3 (And.intro y4 M))))))))))))
  clear b1 b2 b3 b4 q1 q2 q3 q3' q4 q5 y1 y2 y3 y4 m2 m3
  refine lim_fun hG (h := runV F M ?_)
  clear t0 t1 t2
  refine WL_loop (SRo n L w LS AT es) (fun k => k ≤ w) (fun k => w - k) ?_ 0 _ (Nat.zero_le _) (by unfold SRo; rw [h0, h1]; kernel_rfl)
  intro k hk
  by_cases h : k < w
  · have hlt : decide ((k : Int) < (w : Int)) = true := by simp; omega
    have i1 := inc64 k (by omega)
    have t4 := a1 k h
    clear a1 a2 l1 r1 fin t3
    unfold SRo
    refine runV (And.intro hlt (And.intro i1 F)) M ?_
    exact Qr_n (k + 1) (by kernel_rfl) ⟨by omega, by omega⟩
  · obtain rfl : k = w := by omega
    have hlt : decide ((k : Int) < (k : Int)) = false := by simp
    clear a1
    unfold SRo
    refine runV hlt trivial ?_
    refine Qr_x ?_
    refine Qb_x (σ1 := ⟨(.int .i64 n :: .int .i64 L :: .gone 0 :: .gone 0 :: .gone 0 :: .ptr (.obj 4 0) :: .gone 0 :: .gone 0 :: .int .i64 k :: .gone 0 :: .gone 0 :: .gone 0 :: .gone 0 :: .gone 0 :: .gone 0 :: .gone 0 :: .gone 0 :: .gone 0 :: .gone 0 :: .gone 0 :: .gone 0 :: .gone 0 :: .gone 0 :: .gone 0 :: .gone 0 :: .gone 0 :: .gone 0 :: .gone 0 :: .gone 0 :: .gone 0 :: .gone 0 :: .ptr (.obj 4 0) :: .gone 0 :: .gone 0 :: .gone 0 :: .gone 0 :: .gone 0 :: .gone 0 :: .gone 0 :: .gone 0 :: .gone 0 :: .gone 0 :: .gone 0 :: .gone 0 :: .gone 0 :: .gone 0 :: .gone 0 :: .gone 0 :: .gone 0 :: .gone 0 :: .gone 0 :: .gone 0 :: .gone 0 :: .gone 0 :: .gone 0 :: .gone 0 :: .gone 0 :: .gone 0 :: .gone 0 :: .gone 0 :: .gone 0 :: .gone 0 :: .gone 0 :: .gone 0 :: .gone 0 :: .gone 0 :: .gone 0 :: .gone 0 :: .gone 0 :: .gone 0 :: .gone 0 :: .gone 0 :: .gone 0 :: .gone 0 :: .gone 0 :: .gone 0 :: .gone 0 :: .gone 0 :: .gone 0 :: .gone 0 :: .gone 0 :: .gone 0 :: .gone 0 :: .gone 0 :: .gone 0 :: .gone 0 :: .gone 0 :: .gone 0 :: .gone 0 :: .gone 0 :: .gone 0 :: .gone 0 :: .gone 0 :: .gone 0 :: .gone 0 :: .gone 0 :: []), [some (plateO es false (LS k) false (-1)), none, none, none, some (reelO 0 0 1 (AT k) true), none, none, none]⟩) (by kernel_rfl) ?_
    obtain ⟨ls, hls⟩ : ∃ ls, ls = LS k := ⟨_, rfl⟩
    obtain ⟨a, ha⟩ : ∃ a, a = AT k := ⟨_, rfl⟩
    rw [← hls, ← ha] at a2 l1 r1 fin ⊢
    clear hls ha h0 h1
    rcases fin with ⟨hd, es4, f1⟩ | ⟨hd, ls4, es4, t5, f1⟩
    · subst hd
      have g0 : (((0 : Nat) : Int) == 0) = true := by decide
      exact runV (And.intro g0 F) M trivial
    · have g0 : ((d : Int) == 0) = false := by simp; omega
      exact runV (And.intro g0 F) M trivial
theorem reelRoom (hG : G 9 = some (.code v9)) (R : Reel G) (hA : lim G 33 [] [] = some (.bool true, []))
    (hC : ∀ n : Int, lim G 38 [.int .i64 n] [] = some (.int .i64 (if n < 0 ∨ 65536 < n then 0 else (cellsN (flen n.toNat) : Nat)), [])) (n L : Int) : Vq.lim G 9 [.int .i64 n, .int .i64 L] [] = some (.bool true, []) := by
  cases b1 : decide (n < 4)
  case true => exact lim_fun hG (h := runV b1 trivial trivial)
  cases b2 : decide (200 < n)
  case true => exact lim_fun hG (h := runV (And.intro b1 b2) trivial trivial)
  cases b3 : decide (L < 0)
  case true => exact lim_fun hG (h := runV (And.intro b1 (And.intro b2 b3)) trivial trivial)
  cases b4 : decide (400 < L)
  case true => exact lim_fun hG (h := runV (And.intro b1 (And.intro b2 (And.intro b3 b4))) trivial trivial)
  have k1 : ¬ n < 4 := by simpa using b1
  have k2 : ¬ 200 < n := by simpa using b2
  have k3 : ¬ L < 0 := by simpa using b3
  have k4 : ¬ 400 < L := by simpa using b4
  obtain ⟨n, rfl⟩ : ∃ m : Nat, n = m := ⟨n.toNat, by omega⟩
  obtain ⟨L, rfl⟩ : ∃ m : Nat, L = m := ⟨L.toNat, by omega⟩
  have lr : LR (-1) := by unfold LR; omega
  have t0 : lim G 13 [.int .i64 n] [] = some (q0, [plateO (List.replicate n zero64) false [] false (-1)]) := by
    have t := R.new n
    rw [show (max 0 (min (n : Int) 4096)).toNat = n by omega] at t
    exact t
  have hz : ∀ c ∈ List.replicate n zero64, C64 c := fun c hc => by rw [List.eq_of_mem_replicate hc]; exact zero_C
  have pw : PW (List.replicate n zero64) [] := PW.of hz (fun w hw => by simp at hw) (by rw [List.length_replicate]; omega) (by decide)
  have t1 := R.opn _ false [] false (-1) pw
  rw [openR_zero, show decide (0 < (List.replicate n zero64).length / 2) = true by rw [List.length_replicate]; simp; omega] at t1
  simp only [Bool.or_true, openRV] at t1
  obtain ⟨es, hes, he64, t2⟩ := begOk R n (by omega) (by omega)
  obtain ⟨fr, hfr⟩ : ∃ fr, fr = frameN 2 (List.replicate L 0) := ⟨_, rfl⟩
  have hcf : cellsN fr.length = cellsN (flen L) := by rw [hfr, frameN_len, List.length_replicate]; rfl
  obtain ⟨c, hc⟩ : ∃ c, c = cellsN fr.length := ⟨_, rfl⟩
  have hfl := flen_bd L (by omega)
  have hcb : 1 ≤ c ∧ c ≤ 100 := by rw [hc, hcf]; unfold cellsN; omega
  have t3 : lim G 38 [.int .i64 L] [] = some (.int .i64 c, []) := by
    have t := hC L
    rw [if_neg (by omega), Int.toNat_natCast, ← hcf, ← hc] at t
    exact t
  obtain ⟨m, hm⟩ : ∃ m, m = n / 2 := ⟨_, rfl⟩
  obtain ⟨w, hw⟩ : ∃ w, w = (m - 1) / c := ⟨_, rfl⟩
  have hwc : c * w ≤ m - 1 ∧ m - 1 < c * w + c := by
    have h1 := Nat.div_add_mod (m - 1) c
    have h2 := Nat.mod_lt (m - 1) (show 0 < c by omega)
    rw [← hw] at h1
    omega
  have hwm : w ≤ m := by
    have := Nat.div_le_self (m - 1) c
    omega
  have q1 : IntKind.i64.wrap ((n : Int).tdiv 2) = (m : Int) := by rw [Int.tdiv_eq_ediv_of_nonneg (by omega), wrapi64 _ (by omega) (by omega)]; omega
  have q2 : IntKind.i64.wrap ((m : Int) - 1) = ((m - 1 : Nat) : Int) := by rw [wrapi64 _ (by omega) (by omega)]; omega
  have q3 : IntKind.i64.wrap (((m - 1 : Nat) : Int).tdiv c) = (w : Int) := by
    rw [Int.tdiv_eq_ediv_of_nonneg (by omega), ← Int.natCast_ediv, ← hw, wrapi64 _ (by omega) (by omega)]
  have q4 : IntKind.i64.wrap ((w : Int) * (c : Int)) = ((c * w : Nat) : Int) := by rw [← Int.natCast_mul, Nat.mul_comm, wrapi64 _ (by omega) (by omega)]
  have q5 : IntKind.i64.wrap (((m - 1 : Nat) : Int) - ((c * w : Nat) : Int)) = ((m - 1 - c * w : Nat) : Int) := by rw [wrapi64 _ (by omega) (by omega)]; omega
  have y4 : ((c : Int) = 0) = False := by simp; omega
  -- the words
  have a1 := fun k (hk : 1 + c * (k + 1) ≤ m) => addOk R m L es fr hfr (by rw [hes, hm]) (by omega) (by omega) k (by rw [← hc]; exact hk)
  have hls : (lsK m fr w).length = c * w := by rw [lsK_len, ← hc]
  have a2 := addNo R L (1 + c * w) es (lsK m fr w) (by omega) (by omega) (by omega) (by omega) (by rw [← hfr, ← hc]; omega)
  have l1 := R.left 0 1 (1 + c * w) true es false (lsK m fr w) false (-1) (by omega) (by omega)
  have e1 : leftN es.length (1 + c * w) true = ((m - 1 - c * w : Nat) : Int) := by unfold leftN; simp only [hes, if_true]; omega
  rw [e1] at l1
  have r1 := R.ready 0 1 (1 + c * w) true es false (lsK m fr w) false (-1)
  have hpn : cellsN (frameN 2 (List.replicate 0 0)).length = 1 := by decide +kernel
  have hok := lsK_ok m es.length fr w (by rw [← hc]; omega)
  have s1 : spO false (-1) = false := by decide
  have s2 : spL false (-1) = -1 := by decide
  have f1 := R.flush 0 1 (1 + c * w) true es false (lsK m fr w) false (-1) he64 hok (by omega) lr
  simp only [s1, s2, if_true, Bool.false_eq_true, if_false] at f1
  obtain ⟨es3, h3⟩ : ∃ es3, es3 = (lsK m fr w).foldl wr es := ⟨_, rfl⟩
  rw [← h3] at f1
  obtain ⟨d, hd⟩ : ∃ d, d = m - 1 - c * w := ⟨_, rfl⟩
  rw [← hd] at l1 q5
  -- the last, empty word
  have a3 : d ≠ 0 → ∃ ls4 : List (Nat × List Nat), ∃ es4 : List (List Nat), lim G 36 [q0, .isl 0 1 []] [reelO 1 0 1 (1 + c * w) true, plateO es false (lsK m fr w) false (-1)] = some (.int .i64 0, [reelO 1 0 1 (1 + c * w + 1) true, plateO es false ls4 false (-1)]) ∧
      lim G 37 [q0] [reelO 1 0 1 (1 + c * w + 1) true, plateO es false ls4 false (-1)] = some (.int .i64 0, [reelO 1 0 1 (1 + c * w + 1) true, plateO es4 false [] false (-1)]) := by
    intro hd0
    refine ⟨lsK m fr w ++ putL m 0 1 (1 + c * w) (pieces (frameN 2 [])), (lsK m fr w ++ putL m 0 1 (1 + c * w) (pieces (frameN 2 []))).foldl wr es, ?_, ?_⟩
    rotate_left
    · have f := R.flush 0 1 (1 + c * w + 1) true es false (lsK m fr w ++ putL m 0 1 (1 + c * w) (pieces (frameN 2 []))) false (-1) he64 (fun x hx => by
          rcases List.mem_append.1 hx with hx | hx
          · exact hok x hx
          · exact putL_ok _ _ (pieces_48 _) (by rw [pieces_len]; have hpn' : cellsN (frameN 2 []).length = 1 := hpn; rw [hpn']; omega) x hx) (by rw [List.length_append, putL_len, pieces_len]; have hpn' : cellsN (frameN 2 []).length = 1 := hpn; rw [hpn']; omega) lr
      simp only [s1, s2, if_true, Bool.false_eq_true, if_false] at f
      exact f
    · have t := R.add 0 1 (1 + c * w) true [] es false (lsK m fr w) false (-1) (by decide) (fun _ => by decide) (by omega) (by decide) (by decide) (by omega) lr (by omega)
      refine t.trans ?_
      have hpn' : cellsN (frameN 2 []).length = 1 := hpn
      unfold addR
      simp only [putN_free, hpn', hes]
      rw [if_neg (by simp), ← hm, if_neg (by omega), if_neg (by simp)]
  rw [← hc] at a1
  refine roomWalk hG hA n L m (m - 1) c w (c * w) d (List.replicate n zero64) es (lsK m fr) (fun k => 1 + c * k) (List.replicate L 0) b1 b2 b3 b4 t0 t1 t2 t3 q1 q2 q3 q4 q5 ?_ ?_ y4 (by omega) (by omega) rfl rfl (fun k hk => a1 k ?_) a2 l1 r1 ?_
  · rw [Int.toNat_natCast]; exact byN_rep L
  · rw [byN_len, List.length_replicate, Int.toNat_natCast]
  · have := Nat.mul_le_mul_left c (show k + 1 ≤ w by omega)
    omega
  · by_cases hd0 : d = 0
    · exact .inl ⟨hd0, es3, f1⟩
    · exact .inr ⟨hd0, a3 hd0⟩
end
end P1
end Go.Vq

namespace Go.Proofs.Ytbbpandancpibaa.reelRoom
open Go.ChangeShapes Go.WideShapes Go.ChangeAt Go.RowKit
theorem own : ownKnob Try.prog.godebug = none := by kernel_rfl
noncomputable def G1 : Vq.VProg := Vq.vprog Try.prog ap ib keeps prims
theorem g1_ok : Vq.GOk Try.prog G1 := Vq.vprog_ok prims_ok
theorem g1_51 : G1 51 = some (.prim (Vq.clonePrim 1 1)) := rfl
theorem g1_80 : G1 80 = some (.iter (Vq.backwardI true 65)) := rfl
theorem g1_88 : G1 88 = some (.iter (Vq.backwardI false 1)) := rfl
theorem g1_85 : G1 85 = some (.iter (Vq.chunkI 1)) := rfl
theorem clone (es : List Vq.V) (h : es.length ≤ 140737488355328) : Vq.lim G1 51 [.isl 0 1 es] [] = some (.xsl 0 1 es, []) := Vq.lim_prim g1_51 (by simp [Vq.clonePrim, h])
theorem marks : Vq.P1.Marks G1 := Vq.P1.marks_ok G1 clone (by kernel_rfl) (by kernel_rfl) (by kernel_rfl) (by kernel_rfl) (by kernel_rfl) (by kernel_rfl) g1_80 (by kernel_rfl) (by kernel_rfl) g1_88 (by kernel_rfl) (by kernel_rfl) (by kernel_rfl) (by kernel_rfl) (by kernel_rfl) (by kernel_rfl) (by kernel_rfl) (by kernel_rfl)
theorem halves (n : Nat) (hn : n < 2 ^ 32) : Vq.lim G1 84 [.int .u32 n, .int .i64 8] [] = some (.int .u32 (Vq.P1.halN 8 n : Nat), []) := Vq.P1.halves G1 (by kernel_rfl) n hn
theorem of1 (l : List Nat) (hl : l.length < 2 ^ 40) (hb : ∀ x ∈ l, x < 256) : Vq.lim G1 74 [.isl 0 1 [.isl 0 1 (Vq.byN l)]] [] = some (.int .u32 (Vq.P1.crc l : Nat), []) := Vq.P1.of1 G1 (by kernel_rfl) halves l hl hb
theorem number (l : List Nat) (hl : l.length < 2 ^ 40) (hb : ∀ x ∈ l, x < 256) : Vq.lim G1 82 [.isl 0 1 (Vq.byN l), .int .u64 65536] [] = some (.tup [.int .u64 (Vq.P1.dec 65536 0 0 l).1, .int .i64 (Vq.P1.dec 65536 0 0 l).2], []) := Vq.P1.number G1 (by kernel_rfl) l 65536 hl hb (by decide)
theorem opens (b : List Nat) (hb : ∀ x ∈ b, x < 256) (hl : b.length < 2 ^ 31) : Vq.lim G1 71 [.isl 0 1 (Vq.byN b)] [] = some (Vq.P1.openV (Vq.P1.openN b), []) := Vq.P1.Open G1 (by kernel_rfl) number of1 clone b hb hl
theorem frame (k : Nat) (hk : k < 256) (body : List Nat) (hb : ∀ x ∈ body, x < 256) (hl : body.length ≤ 65536) : Vq.lim G1 62 [.agg [.int .u8 k, .isl 0 1 (Vq.byN body)]] [] = some (.tup [.fsl 0 1 (Vq.byN (Vq.P1.frameN k body)), .int .i64 0], []) :=
  Vq.P1.Frame G1 (by kernel_rfl) (fun b ns hn hl hb => Vq.P1.Number G1 (by kernel_rfl) clone b ns hn hl hb) of1 k hk body hb hl
theorem cells (n : Nat) (h : n < 2 ^ 40) : Vq.lim G1 63 [.int .i64 n] [] = some (.int .i64 (Vq.P1.cellsN n : Nat), []) := Vq.P1.rcells G1 (by kernel_rfl) n h
theorem concat (ls : List (List Nat)) (h1 : ls.length < 2 ^ 40) (h2 : ls.flatten.length < 2 ^ 40) : Vq.lim G1 72 [.isl 0 1 (ls.map Vq.P1.iB)] [] = some (.xsl 0 1 (Vq.byN ls.flatten), []) := Vq.P1.concat G1 (by kernel_rfl) (fun n hn => Vq.P1.grow0 G1 (by kernel_rfl) n hn) ls h1 h2
theorem flush : Vq.P1.HFlush G1 := fun es fz ls off left he hw hb hl => Vq.P1.flush G1 (by kernel_rfl) (Vq.P1.spend G1 (by kernel_rfl)) es fz ls off left he hw hb hl
theorem hput : Vq.P1.HPut G1 := fun s r a b rs rr ra rb es fz ls off left hs hr ha hn hb hl hls => Vq.P1.rputR G1 (by kernel_rfl) g1_85 (fun es n hn => Vq.P1.chunkC G1 (by kernel_rfl) es n hn) marks s r a b rs rr ra rb es fz ls off left hs hr ha hn hb hl hls
theorem leftC : ∀ (s r a : Nat) (b : Bool) es fz ls off left (_ : es.length < 2 ^ 40) (_ : a < 2 ^ 40), Vq.lim G1 39 [Vq.P1.q0] [Vq.P1.reelO 1 s r a b, Vq.P1.plateO es fz ls off left] = some (.int .i64 (Vq.P1.leftN es.length a b), [Vq.P1.reelO 1 s r a b, Vq.P1.plateO es fz ls off left]) :=
  fun s r a b es fz ls off left hn ha => Vq.P1.rleft G1 (by kernel_rfl) marks.room s r a b es fz ls off left hn ha
theorem reel : Vq.P1.Reel G1 where
  new := fun n => Vq.P1.pnew G1 (by kernel_rfl) n
  opn := fun es fz ls off left h => Vq.P1.ropen G1 (by kernel_rfl) (fun s hs es fz ls off left h => Vq.P1.rside G1 (by kernel_rfl) marks concat opens cells s hs es fz ls off left h) es fz ls off left h
  beg := fun s r a rd body es fz ls off left hs hb hl h hlr hls => Vq.P1.rbegin G1 (by kernel_rfl) marks frame hput flush cells s r a rd body es fz ls off left hs hb hl h hlr hls
  add := fun s r a rd body es fz ls off left hs hr ha hb hl hn hlr hls => Vq.P1.radd G1 (by kernel_rfl) frame hput leftC cells s r a rd body es fz ls off left hs hr ha hb hl hn hlr hls
  flush := fun s r a b es fz ls off left he hw hl hlr => Vq.P1.rflushR G1 (by kernel_rfl) flush s r a b es fz ls off left he hw hl hlr
  ready := fun s r a b es fz ls off left => Vq.P1.rready G1 (by kernel_rfl) s r a b es fz ls off left
  left := leftC
theorem alive : Vq.lim G1 33 [] [] = some (.bool true, []) := Vq.P1.reelAlive (by kernel_rfl) reel

theorem runs (us : List Vq.V) (h : Vq.HasTs Try.prog [3, 3] us) : Vq.lim G1 9 us [] = some (.bool true, []) := by
  obtain ⟨v0, us, rfl, h0, h⟩ := h.inv
  obtain ⟨v1, us, rfl, h1, h⟩ := h.inv
  obtain rfl := h.inv_nil
  obtain ⟨n, rfl, _⟩ := h0.int Try.underlying3
  obtain ⟨L, rfl, _⟩ := h1.int Try.underlying3
  exact Vq.P1.reelRoom (by kernel_rfl) reel alive (Vq.P1.rCells G1 (by kernel_rfl) cells frame) n L

/-! ### the row's step -/
theorem types : Try.f9.params.toList = [3, 3] := by kernel_rfl
theorem argsOk : ((Try.f9.params.toList).all fun t => Vq.argT Try.prog 8 true t) = true := by kernel_rfl
set_option maxRecDepth 100000 in
theorem lifted (os : Os) (started : os.Started) (H : Type) (enc : TypeId × Value → H) :
    ReturnsInHanded {} Try.checked os 9 .any (Rows.reelRoomSpec.pre6 enc Try.prog Try.f9 Rows.reelRoomRow.domain false) (Rows.reelRoomSpec.post enc Try.prog Try.f9 false true false false) := by
  refine returnsInHanded_of_change (C := Try.checked) own started (by kernel_rfl) Try.func9
    (ChangeSpec.witness6 (enc := enc) (C := Try.checked) false ⟨#[], #[.int .i64 0, .int .i64 0], []⟩ 8 (by kernel_rfl) (by kernel_rfl) (by kernel_rfl) (by kernel_rfl)) ?_
  intro W base args ds gs before hval0 hW hcnd _
  have hval : ∀ (j : Nat) t v, Try.f9.params[j]? = some t → args[j]? = some v → Value.okWide Try.prog W .any base t v := hval0
  have hW' := hW
  obtain ⟨p, q, hA0, hV, rfl, hfz, hnd⟩ := hW
  have hA : DataW.TrodAll enc Try.prog W 0 (fun _ => true) true Try.f9.params.toList args.toList ds p := hA0
  obtain ⟨us, ha, ht⟩ := Vq.args_rel (fun t ht => ⟨8, List.all_eq_true.1 argsOk t ht⟩) hA (fun j t v h1 h2 => hval j t v (by simpa using h1) (by simpa using h2))
  rw [types] at ht
  obtain ⟨_, hrun⟩ := Vq.lim_ev (runs us ht)
  refine (Vq.true_walk_args (xs := args.toList) g1_ok (hrun _ (Nat.le_refl _)) W ha).mono fun e W' ⟨he, hg⟩ => ?_
  subst he
  exact ⟨_, rfl, Vq.post_args (tb := 4) 8 hW' hg argsOk rfl (fun l hl => by
    have hl' : l.length = [3, 3].length := by rw [← types]; simpa using hl
    clear hl
    match l, hl' with
    | [d0, d1], _ => rfl) (by kernel_rfl) Try.underlying4⟩

theorem over : Rows.reelRoomRow.holds Try.pinned (OpenSpec.ofChange Rows.reelRoomSpec) :=
  OpenClaim.holds_of_wide 9 Try.f9 rfl rfl rfl rfl rfl rfl rfl ⟨rfl, rfl, rfl, rfl, rfl⟩ rfl rfl rfl rfl rfl (by kernel_rfl) Try.func9 (by kernel_rfl)
    (of_decide_eq_true (by kernel_rfl)) (by unfold Func.isWrapper; first | (rw [if_pos (by decide +kernel)]; kernel_rfl) | (rw [if_neg (by decide +kernel)]; exact ⟨rfl, rfl⟩))
    (fun os started H enc _ => lifted os started H enc)

/-- ████ THE STATEMENT ████ -/
theorem proved : Rows.ReelRoomSaid :=
  over
#print axioms proved
end Go.Proofs.Ytbbpandancpibaa.reelRoom
