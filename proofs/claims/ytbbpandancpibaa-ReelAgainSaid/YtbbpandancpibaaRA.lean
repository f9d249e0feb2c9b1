/- Proved: ReelAgain answers true for any arguments, whatever the world it is called in; no condition. -/
import Derived.Test.YtbbpandancpibaaRows
import Derived.Test.YtbbpandancpibaaK
import Derived.Test.YtbbpandancpibaaF23
import Derived.WalkKit
import Derived.ProofKit
import Derived.OpenShut
import Derived.ShutString
set_option linter.unusedVariables false
set_option linter.unusedSimpArgs false
namespace Go.Vq
theorem mapx {α : Type} {f : α → V} {p : α → Prop} : ∀ {es : List V}, (∀ x ∈ es, ∃ a, x = f a ∧ p a) → ∃ l : List α, es = l.map f ∧ ∀ a ∈ l, p a
  | [], _ => ⟨[], rfl, fun a h => by simp at h⟩
  | x :: es, h => by
    obtain ⟨a, rfl, ha⟩ := h x (by simp)
    obtain ⟨l, rfl, hl⟩ := mapx (es := es) fun y hy => h y (by simp [hy])
    exact ⟨a :: l, rfl, fun b hb => by rcases List.mem_cons.1 hb with rfl | hb; exact ha; exact hl b hb⟩
section
variable {P : Program} {t e : TypeId} {v : V}
theorem HasT.ints {k : IntKind} (ht : P.underlying t = some (.slice e)) (he : P.underlying e = some (.int k)) (hc : P.cellsOf e = 1) (h : HasT P t v) : ∃ ns : List Int, v = .isl 0 1 (ns.map (V.int k)) ∧ ∀ n ∈ ns, (Lit.int k n).wf = true := by
  obtain ⟨es, rfl, _, h2⟩ := h.slice ht
  obtain ⟨l, rfl, h3⟩ := mapx (f := V.int k) fun x hx => (h2 x hx).int he
  exact ⟨l, by rw [hc], h3⟩
end
end Go.Vq
namespace Go.Vq
theorem bytes_nat (bs : List Int) (h : ∀ b ∈ bs, (Lit.int .u8 b).wf = true) : ∃ l : List Nat, bs.map (V.int .u8) = byN l ∧ ∀ x ∈ l, x < 256 := by
  have hr : ∀ b ∈ bs, 0 ≤ b ∧ b < 256 := fun b hb => by
    have := h b hb
    simp [Lit.wf, IntKind.min, IntKind.max, IntKind.signed, IntKind.bits] at this
    omega
  refine ⟨bs.map Int.toNat, ?_, fun x hx => ?_⟩
  · simp only [byN, List.map_map]
    refine List.map_congr_left fun b hb => ?_
    have := hr b hb
    simp only [Function.comp]
    congr 1
    omega
  · obtain ⟨b, hb, rfl⟩ := List.mem_map.1 hx
    have := hr b hb
    omega
end Go.Vq

namespace Go.Vq.P1
open Go
set_option maxRecDepth 1000000
set_option maxHeartbeats 8000000
def strN (l : List Nat) : List UInt8 := l.map UInt8.ofNat
end Go.Vq.P1
namespace Go.Vq.P1
open Go
set_option maxRecDepth 1000000
set_option maxHeartbeats 8000000
theorem textV_by (l : List Nat) : textV (byN l) = some (strN l) := by
  induction l with
  | nil => rfl
  | cons x l ih => rw [byN_cons]; simp only [textV, ih]; rfl
end Go.Vq.P1
namespace Go.Vq.P1
open Go
set_option maxRecDepth 1000000
set_option maxHeartbeats 8000000
theorem leN_le8 (n : Nat) (h : n < 2 ^ 64) : leN (le8 n) = n := by
  simp only [leN, le8, List.foldr]
  omega
end Go.Vq.P1
namespace Go.Vq.P1
open Go
set_option maxRecDepth 1000000
set_option maxHeartbeats 8000000
theorem cellM_A (n : Nat) (l : List Nat) (h : n < 2 ^ 64) : endA (cellM n l) = n := by
  unfold endA cellM
  rw [show List.take 8 (le8 n ++ (pad48 l ++ le8 n)) = le8 n from List.take_left' rfl]; exact leN_le8 n h
end Go.Vq.P1
namespace Go.Vq.P1
open Go
set_option maxRecDepth 1000000
set_option maxHeartbeats 8000000
theorem cellM_B (n : Nat) (l : List Nat) (hl : l.length ≤ 48) (h : n < 2 ^ 64) : endB (cellM n l) = n := by
  unfold endB cellM
  rw [← List.append_assoc, List.drop_left' (by simp [le8, pad48_len hl])]; exact leN_le8 n h
end Go.Vq.P1
namespace Go.Vq.P1
open Go
set_option maxRecDepth 1000000
set_option maxHeartbeats 8000000
theorem cellM_mark (n : Nat) (l : List Nat) (hl : l.length ≤ 48) (h : n < 2 ^ 64) : markN (cellM n l) = n := by
  unfold markN
  rw [cellM_A n l h, cellM_B n l hl h, if_pos rfl]
end Go.Vq.P1
namespace Go.Vq.P1
open Go
set_option maxRecDepth 1000000
set_option maxHeartbeats 8000000
theorem cellM_mid (n : Nat) (l : List Nat) (hl : l.length ≤ 48) : mid (cellM n l) = pad48 l := by
  unfold mid cellM
  rw [show List.drop 8 (le8 n ++ (pad48 l ++ le8 n)) = pad48 l ++ le8 n from List.drop_left' rfl, List.take_left' (pad48_len hl)]
end Go.Vq.P1
namespace Go.Vq.P1
open Go
set_option maxRecDepth 1000000
set_option maxHeartbeats 8000000
theorem find_app_eq (ls : List (Nat × List Nat)) (a : Nat) (c : List Nat) : find (ls ++ [(a, c)]) (a : Int) = some c := by simp [find]
end Go.Vq.P1
namespace Go.Vq.P1
open Go
set_option maxRecDepth 1000000
set_option maxHeartbeats 8000000
theorem find_app_ne (ls : List (Nat × List Nat)) (a : Nat) (c : List Nat) (i : Int) (h : (a : Int) ≠ i) : find (ls ++ [(a, c)]) i = find ls i := by simp [find, h]
end Go.Vq.P1
namespace Go.Vq.P1
open Go
set_option maxRecDepth 1000000
set_option maxHeartbeats 8000000
theorem getC_app_eq (es : List (List Nat)) (ls : List (Nat × List Nat)) (a : Nat) (c : List Nat) (h : a < es.length) : getC es (ls ++ [(a, c)]) (a : Int) = c := by
  unfold getC
  rw [if_pos (by simp [inR]; omega), find_app_eq]; rfl
end Go.Vq.P1
namespace Go.Vq.P1
open Go
set_option maxRecDepth 1000000
set_option maxHeartbeats 8000000
theorem getC_app_ne (es : List (List Nat)) (ls : List (Nat × List Nat)) (a : Nat) (c : List Nat) (i : Int) (h : (a : Int) ≠ i) : getC es (ls ++ [(a, c)]) i = getC es ls i := by
  unfold getC
  rw [find_app_ne _ _ _ _ h]
end Go.Vq.P1
namespace Go.Vq.P1
open Go
set_option maxRecDepth 1000000
set_option maxHeartbeats 8000000
theorem topN_le (es : List (List Nat)) (ls : List (Nat × List Nat)) (T : Nat) (h : ∀ i : Nat, endA (getC es ls i) / 65536 ≤ T ∧ endB (getC es ls i) / 65536 ≤ T) : ∀ n, topN es ls n ≤ T
  | 0 => Nat.zero_le _
  | n + 1 => by
    have h1 := topN_le es ls T h n
    obtain ⟨h2, h3⟩ := h n
    simp only [topN]
    omega
end Go.Vq.P1
namespace Go.Vq.P1
open Go
set_option maxRecDepth 1000000
set_option maxHeartbeats 8000000
theorem tailN_self (l : List Nat) (r : List Nat) : tailN (l ++ r) l = 0 := by
  induction l with
  | nil => cases r <;> rfl
  | cons x l ih => simp only [List.cons_append, tailN, if_true]; exact ih
end Go.Vq.P1
namespace Go.Vq.P1
open Go
set_option maxRecDepth 1000000
set_option maxHeartbeats 8000000
theorem dec_dig (lim : Nat) (hlim : lim < 2 ^ 62) : ∀ (m i n : Nat) (r : List Nat), n + m * 2 ^ (7 * i) ≤ lim → i ≤ 8 → (0 < i → 0 < m) → dec lim i n (digN m ++ r) = (((n + m * 2 ^ (7 * i) : Nat) : Int), ((i + (digN m).length : Nat) : Int)) := by
  intro m
  induction m using Nat.strongRecOn with
  | ind m ih =>
    intro i n r hl hi hpos
    have hp : 0 < 2 ^ (7 * i) := Nat.two_pow_pos _
    by_cases h : m < 128
    · rw [digN_lo h, List.singleton_append, dec_cons]
      have e : m % 128 = m := Nat.mod_eq_of_lt h
      rw [e, if_neg (by omega), if_pos h]; rfl
    · rw [digN_hi h, List.cons_append, dec_cons]
      have e : (m % 128 + 128) % 128 = m % 128 := by omega
      have e2 : 2 ^ (7 * (i + 1)) = 128 * 2 ^ (7 * i) := by rw [show 7 * (i + 1) = 7 * i + 7 by omega, Nat.pow_add, Nat.mul_comm]
      have hm : m = 128 * (m / 128) + m % 128 := by omega
      have hmul : m * 2 ^ (7 * i) = (m / 128) * 2 ^ (7 * (i + 1)) + m % 128 * 2 ^ (7 * i) := by
        rw [e2]
        conv => lhs; rw [hm, Nat.add_mul]
        congr 1
        rw [Nat.mul_comm 128, Nat.mul_assoc]
      have hq : 1 ≤ m / 128 := by omega
      have hge : 2 ^ (7 * (i + 1)) ≤ m / 128 * 2 ^ (7 * (i + 1)) := Nat.le_mul_of_pos_left _ hq
      have hi7 : i ≤ 7 := by
        rcases Nat.lt_or_ge 7 i with h8 | h8
        · have : i = 8 := by omega
          subst this
          have : (2 : Nat) ^ (7 * (8 + 1)) = 9223372036854775808 := by decide
          have h62 : (2 : Nat) ^ 62 = 4611686018427387904 := by decide
          omega
        · exact h8
      rw [e, if_neg (by omega), if_neg (by omega), if_neg (by omega)]
      rw [ih (m / 128) (by omega) (i + 1) _ r (by omega) (by omega) (fun _ => by omega)]
      have e9 : n + m % 128 * 2 ^ (7 * i) + m / 128 * 2 ^ (7 * (i + 1)) = n + m * 2 ^ (7 * i) := by rw [hmul]; omega
      have e8 : i + 1 + (digN (m / 128)).length = i + ((m % 128 + 128) :: digN (m / 128)).length := by simp only [List.length_cons]; omega
      rw [e9, e8]
end Go.Vq.P1
namespace Go.Vq.P1
open Go
set_option maxRecDepth 1000000
set_option maxHeartbeats 8000000
theorem dec_len (body r : List Nat) (h : body.length ≤ 65536) : dec 65536 0 0 (digN body.length ++ r) = ((body.length : Int), ((digN body.length).length : Int)) := by
  have := dec_dig 65536 (by decide) body.length 0 0 r (by omega) (by omega) (by omega)
  simpa using this
end Go.Vq.P1
namespace Go.Vq.P1
open Go
set_option maxRecDepth 1000000
set_option maxHeartbeats 8000000
theorem digN_pos (n : Nat) : 0 < (digN n).length := by
  by_cases h : n < 128
  · rw [digN_lo h]; simp
  · rw [digN_hi h]; simp
end Go.Vq.P1
namespace Go.Vq.P1
open Go
set_option maxRecDepth 1000000
set_option maxHeartbeats 8000000
theorem open_frame (k : Nat) (body r : List Nat) (h : body.length ≤ 65536) : openN (frameN k body ++ r) = ((k, body), (frameN k body).length, 0) := by
  have e : frameN k body ++ r = 167 :: 1 :: k :: (digN body.length ++ (body ++ (fourN (crc (headN k body)) ++ r))) := by simp [frameN, headN]
  have hp := digN_pos body.length
  rw [e, openN_cons, dec_len _ _ h]
  simp only [Int.toNat_natCast]
  have d1 : List.drop ((digN body.length).length + body.length) (digN body.length ++ (body ++ (fourN (crc (headN k body)) ++ r))) = fourN (crc (headN k body)) ++ r := by
    rw [← List.append_assoc, List.drop_left' (by simp)]
  have d2 : List.take ((digN body.length).length + body.length) (digN body.length ++ (body ++ (fourN (crc (headN k body)) ++ r))) = digN body.length ++ body := by
    rw [← List.append_assoc, List.take_left' (by simp)]
  have d3 : List.take body.length (List.drop (digN body.length).length (digN body.length ++ (body ++ (fourN (crc (headN k body)) ++ r)))) = body := by
    rw [List.drop_left, List.take_left]
  have d4 : (167 :: 1 :: k :: (digN body.length ++ body)) = headN k body := by simp [headN]
  have d5 : 3 + ((digN body.length).length + body.length) + 4 = 7 + (digN body.length).length + body.length := by omega
  rw [d1, d2, d3, d4, tailN_self, if_neg (by omega), if_neg (by omega), if_neg (by simp), if_neg (by simp), frameN_len, d5]
end Go.Vq.P1

namespace Go.Vq
namespace P1
open Go
set_option maxRecDepth 1000000
set_option maxHeartbeats 8000000
theorem getC_zero (n : Nat) (i : Int) : getC (List.replicate n zero64) [] i = zero64 := by
  unfold getC
  split
  · simp only [find, List.find?_nil, Option.map_none, Option.getD_none]
    simp only [List.getD_eq_getElem?_getD, List.getElem?_replicate]
    split <;> rfl
  · rfl
theorem topN_zero (n : Nat) : ∀ k, topN (List.replicate n zero64) [] k = 0
  | 0 => rfl
  | k + 1 => by
    simp only [topN, topN_zero n k, getC_zero]
    decide +kernel
theorem readN_zero (n : Nat) (s : Int) : readN (List.replicate n zero64) [] s = (0, []) := by
  unfold readN
  split
  · rfl
  · simp only [getC_zero]
    exact if_pos (.inl (by decide +kernel))
theorem openR_zero (n : Nat) : openR (List.replicate n zero64) [] = (1, []) := by
  unfold openR sideN
  simp only [readN_zero]
  decide
def putL (h s r : Nat) : Nat → List (List Nat) → List (Nat × List Nat)
  | _, [] => []
  | a, c :: cs => (s * h + a, cellM (mkN r a) c) :: putL h s r (a + 1) cs
theorem putL_len (h s r : Nat) : ∀ (cs : List (List Nat)) (a : Nat), (putL h s r a cs).length = cs.length
  | [], _ => rfl
  | c :: cs, a => by simp only [putL, List.length_cons, putL_len h s r cs (a + 1)]
theorem putN_free (h s r : Nat) : ∀ (cs : List (List Nat)) (a : Nat) (ls : List (Nat × List Nat)), putN h s r a cs (ls, false, -1) = (0, ls ++ putL h s r a cs, false, -1)
  | [], _, ls => by simp [putN, putL]
  | c :: cs, a, ls => by
    have e1 : spO false (-1) = false := by decide
    have e2 : spL false (-1) = -1 := by decide
    simp only [putN, e1, e2, Bool.false_eq_true, if_false]
    rw [putN_free h s r cs (a + 1)]
    simp only [putL, List.append_assoc, List.singleton_append]
theorem cellM_len {n : Nat} {c : List Nat} (h : c.length ≤ 48) : (cellM n c).length = 64 := by simp [cellM, le8, pad48_len h]
theorem putL_ok {h s r n : Nat} : ∀ (cs : List (List Nat)) (a : Nat), (∀ c ∈ cs, c.length ≤ 48) → s * h + a + cs.length ≤ n → ∀ w ∈ putL h s r a cs, w.1 < n ∧ w.2.length = 64
  | [], _, _, _ => by simp [putL]
  | c :: cs, a, hc, hn => by
    intro w hw
    simp only [List.length_cons] at hn
    rcases List.mem_cons.1 hw with rfl | hw
    · exact ⟨by simp only; omega, cellM_len (hc c (by simp))⟩
    · exact putL_ok cs (a + 1) (fun c h => hc c (by simp [h])) (by omega) w hw
theorem pieces_48 (b : List Nat) : ∀ c ∈ pieces b, c.length ≤ 48 := by
  intro c hc
  obtain ⟨k, _, rfl⟩ := List.mem_map.1 hc
  simp [chunk48]; omega
end P1
end Go.Vq

namespace Go.Vq
namespace P1
open Go
set_option maxRecDepth 1000000
set_option maxHeartbeats 8000000
theorem getC_fold0 (es : List (List Nat)) (ls : List (Nat × List Nat)) (hl : ∀ w ∈ ls, w.1 < es.length) (i : Int) : getC (ls.foldl wr es) [] i = getC es ls i := by
  have key : ∀ (rs : List (Nat × List Nat)), (∀ w ∈ rs, w.1 < es.length) → getC (rs.reverse.foldl wr es) [] i = getC es rs.reverse i := by
    intro rs hr
    induction rs with
    | nil => rfl
    | cons w rs ih =>
      have ih := ih fun w hw => hr w (List.mem_cons_of_mem _ hw)
      have hw := hr w List.mem_cons_self
      rw [List.reverse_cons, List.foldl_append, List.foldl_cons, List.foldl_nil]
      have hlen := foldl_wr_len es rs.reverse
      by_cases hwk : (w.1 : Int) = i
      · subst hwk
        obtain ⟨a, c⟩ := w
        rw [getC_app_eq es _ a c hw]
        unfold getC
        have hi : inR (a : Int) (wr (rs.reverse.foldl wr es) (a, c)).length = true := by
          unfold inR
          rw [show (wr (rs.reverse.foldl wr es) (a, c)).length = (rs.reverse.foldl wr es).length from List.length_set .., hlen]
          simp only [Bool.and_eq_true, decide_eq_true_eq]
          simp only at hw
          omega
        rw [if_pos hi]
        simp only [find, List.find?_nil, List.reverse_nil, Option.map_none, Option.getD_none, wr, Int.toNat_natCast, List.getD_eq_getElem?_getD]
        rw [List.getElem?_set_self (by rw [hlen]; exact hw)]; rfl
      · obtain ⟨a, c⟩ := w
        rw [getC_app_ne es _ a c i hwk, ← ih]
        unfold getC
        have e1 : (wr (rs.reverse.foldl wr es) (a, c)).length = (rs.reverse.foldl wr es).length := List.length_set ..
        rw [e1]
        by_cases hi : inR i (rs.reverse.foldl wr es).length = true
        · rw [if_pos hi, if_pos hi]
          have hne : a ≠ i.toNat := by simp [inR] at hi; simp only at hwk; omega
          simp only [find, List.find?_nil, List.reverse_nil, Option.map_none, Option.getD_none, wr, List.getD_eq_getElem?_getD]
          rw [List.getElem?_set_ne hne]
        · rw [if_neg hi, if_neg hi]
  have := key ls.reverse fun w hw => hl w (List.mem_reverse.1 hw)
  rwa [List.reverse_reverse] at this
structure Tells (f : Int → List Nat) (h s r : Nat) (L : List (List Nat)) : Prop where
  n : L.length ≤ h
  t : ∀ i, i < L.length → markN (f ((s * h + i : Nat) : Int)) = mkN r i ∧ L[i]? = some (mid (f ((s * h + i : Nat) : Int)))
  x : ∀ i, L.length ≤ i → i < h → markN (f ((s * h + i : Nat) : Int)) ≠ mkN r i
theorem Tells.rd {es ls} {h s r : Nat} {L : List (List Nat)} (H : Tells (getC es ls) h s r L) : ∀ (k a : Nat), a ≤ L.length → a + k = h → rdN es ls (s * h) r a k = L.drop a
  | 0, a, ha, hk => by
    rw [List.drop_of_length_le (by have := H.n; omega)]; rfl
  | k + 1, a, ha, hk => by
    simp only [rdN]
    by_cases hlt : a < L.length
    · obtain ⟨h1, h2⟩ := H.t a hlt
      rw [if_pos h1, H.rd k (a + 1) hlt (by omega), List.drop_eq_getElem_cons hlt]
      rw [List.getElem?_eq_getElem hlt] at h2
      rw [← Option.some.inj h2]
    · rw [if_neg (H.x a (by omega) (by omega)), List.drop_of_length_le (by omega)]
theorem Tells.read {es ls} {s r : Nat} {L : List (List Nat)} (H : Tells (getC es ls) (es.length / 2) s r L) (hL : L ≠ []) (hs : s < 2) (hr : 1 ≤ r) (hr2 : r ≤ 1099511627776) : readN es ls (s : Int) = (r, L) := by
  have h1 := H.n
  have h2 : 0 < L.length := List.length_pos_iff.2 hL
  obtain ⟨t1, _⟩ := H.t 0 h2
  unfold readN
  rw [if_neg (by omega)]
  simp only [Int.toNat_natCast]
  rw [Nat.add_zero] at t1
  rw [t1]
  have e : mkN r 0 / 65536 = r := by unfold mkN; omega
  rw [e, if_neg (by rintro (h | h | h); omega; omega; exact h rfl), H.rd _ 0 (Nat.zero_le _) (by omega)]
  rfl
theorem Tells.snoc {f f' : Int → List Nat} {h s r : Nat} {L : List (List Nat)} {c : List Nat} (H : Tells f h s r L) (hn : L.length < h) (hc : c.length ≤ 48) (hr : r ≤ 1099511627776) (hh : h ≤ 4096)
    (h1 : f' ((s * h + L.length : Nat) : Int) = cellM (mkN r L.length) c) (h2 : ∀ j : Int, j ≠ ((s * h + L.length : Nat) : Int) → f' j = f j) : Tells f' h s r (L ++ [pad48 c]) := by
  have hm : mkN r L.length < 2 ^ 64 := by unfold mkN; omega
  refine ⟨by simp; omega, fun i hi => ?_, fun i hi hi2 => ?_⟩
  · simp only [List.length_append, List.length_singleton] at hi
    by_cases he : i = L.length
    · subst he
      rw [h1, cellM_mark _ _ hc hm, cellM_mid _ _ hc]
      exact ⟨rfl, by simp⟩
    · rw [h2 _ (by omega), List.getElem?_append_left (by omega)]
      exact H.t i (by omega)
  · simp only [List.length_append, List.length_singleton] at hi
    rw [h2 _ (by omega)]
    exact H.x i (by omega) hi2
theorem Tells.put {es : List (List Nat)} {s r h : Nat} (hs : s < 2) (hh : h = es.length / 2) (hr : r ≤ 1099511627776) (h4 : h ≤ 4096) : ∀ (cs : List (List Nat)) (L : List (List Nat)) (ls : List (Nat × List Nat)), Tells (getC es ls) h s r L → L.length + cs.length ≤ h → (∀ c ∈ cs, c.length ≤ 48) →
    Tells (getC es (ls ++ putL h s r L.length cs)) h s r (L ++ cs.map pad48)
  | [], L, ls, H, _, _ => by simpa [putL] using H
  | c :: cs, L, ls, H, hn, hc => by
    simp only [List.length_cons] at hn
    have hi : s * h + L.length < es.length := by
      have : s = 0 ∨ s = 1 := by omega
      rcases this with rfl | rfl <;> omega
    have H1 : Tells (getC es (ls ++ [(s * h + L.length, cellM (mkN r L.length) c)])) h s r (L ++ [pad48 c]) :=
      H.snoc (by omega) (hc c (by simp)) hr h4 (getC_app_eq _ _ _ _ hi) (fun j hj => getC_app_ne _ _ _ _ _ (fun e => hj e.symm))
    have := Tells.put hs hh hr h4 cs (L ++ [pad48 c]) _ H1 (by simp; omega) (fun c h => hc c (by simp [h]))
    simpa [putL, List.append_assoc] using this
theorem Tells.congr {f f' : Int → List Nat} {h s r : Nat} {L : List (List Nat)} (H : Tells f h s r L) (e : ∀ j, j < h → f' ((s * h + j : Nat) : Int) = f ((s * h + j : Nat) : Int)) : Tells f' h s r L :=
  ⟨H.n, fun i hi => by rw [e i (by have := H.n; omega)]; exact H.t i hi, fun i h1 h2 => by rw [e i h2]; exact H.x i h1 h2⟩
def padF (k : Nat) (body : List Nat) : List (List Nat) := (pieces (frameN k body)).map pad48
theorem padF_len (k : Nat) (body : List Nat) : (padF k body).length = cellsN (frameN k body).length := by simp [padF, pieces_len]
theorem pad48_full {l : List Nat} (h : l.length = 48) : pad48 l = l := by simp [pad48, h]
theorem flat_full (b : List Nat) : ∀ n, n * 48 ≤ b.length → (((List.range n).map (chunk48 b)).map pad48).flatten = b.take (n * 48)
  | 0, _ => by simp
  | n + 1, hn => by
    rw [List.range_succ, List.map_append, List.map_append, List.flatten_append, flat_full b n (by omega)]
    have hl : (chunk48 b n).length = 48 := by simp [chunk48]; omega
    simp only [List.map_cons, List.map_nil, List.flatten_cons, List.flatten_nil, List.append_nil, pad48_full hl]
    unfold chunk48
    rw [Nat.succ_mul, List.take_add]
theorem flat_pad (b : List Nat) : ∃ z, ((pieces b).map pad48).flatten = b ++ z := by
  unfold pieces
  by_cases h : b.length % 48 = 0
  · have hc : cellsN b.length * 48 = b.length := by unfold cellsN; omega
    exact ⟨[], by rw [flat_full b _ (by omega), hc, List.take_length, List.append_nil]⟩
  · have hc : cellsN b.length = b.length / 48 + 1 := by unfold cellsN; omega
    refine ⟨List.replicate (48 - (chunk48 b (b.length / 48)).length) 0, ?_⟩
    rw [hc, List.range_succ, List.map_append, List.map_append, List.flatten_append, flat_full b _ (by omega)]
    simp only [List.map_cons, List.map_nil, List.flatten_cons, List.flatten_nil, List.append_nil]
    unfold pad48
    rw [← List.append_assoc]
    congr 1
    unfold chunk48
    rw [List.take_of_length_le (l := List.drop _ b) (by simp; omega), List.take_append_drop]
theorem openAll_frame (f k : Nat) (body : List Nat) (rest : List (List Nat)) (h : body.length ≤ 65536) : openAll (f + 1) k (padF k body ++ rest) = body :: openAll f 2 rest := by
  obtain ⟨z, hz⟩ := flat_pad (frameN k body)
  have hb := frame_bd (k := k) h
  have hne : padF k body ++ rest ≠ [] := by
    intro e
    have := congrArg List.length e
    rw [List.length_append, padF_len] at this
    simp only [List.length_nil] at this
    have : 1 ≤ cellsN (frameN k body).length := by unfold cellsN; omega
    omega
  have e1 : (padF k body ++ rest).flatten = frameN k body ++ (z ++ rest.flatten) := by
    rw [List.flatten_append, padF, hz, List.append_assoc]
  simp only [openAll]
  rw [if_neg hne, e1, open_frame k body _ h]
  rw [if_neg (by simp)]
  simp only
  rw [List.drop_left' (padF_len k body)]
def wordsP (ws : List (List Nat)) : List (List Nat) := (ws.map (padF 2)).flatten
theorem openAll_words : ∀ (ws : List (List Nat)) (f : Nat), ws.length ≤ f → (∀ w ∈ ws, w.length ≤ 65536) → openAll f 2 (wordsP ws) = ws
  | [], f, _, _ => by cases f <;> rfl
  | w :: ws, 0, h, _ => by simp at h
  | w :: ws, f + 1, h, hw => by
    simp only [List.length_cons] at h
    rw [show wordsP (w :: ws) = padF 2 w ++ wordsP ws from rfl, openAll_frame f 2 w _ (hw w (by simp)), openAll_words ws f (by omega) fun w h => hw w (by simp [h])]
theorem padF_pos (k : Nat) (body : List Nat) (h : body.length ≤ 65536) : 1 ≤ (padF k body).length := by
  have hb := frame_bd (k := k) h
  rw [padF_len]; unfold cellsN; omega
theorem wordsP_len : ∀ (ws : List (List Nat)), (∀ w ∈ ws, w.length ≤ 65536) → ws.length ≤ (wordsP ws).length
  | [], _ => Nat.zero_le _
  | w :: ws, h => by
    have h1 := wordsP_len ws fun w hw => h w (by simp [hw])
    have h2 := padF_pos 2 w (h w (by simp))
    rw [show wordsP (w :: ws) = padF 2 w ++ wordsP ws from rfl, List.length_append]
    simp only [List.length_cons]; omega
theorem side_log {es ls} {s r : Nat} {tale : List Nat} {ws : List (List Nat)} (hs : s < 2) (hr : 1 ≤ r) (hr2 : r ≤ 1099511627776) (ht : tale.length ≤ 65536) (hw : ∀ w ∈ ws, w.length ≤ 65536)
    (H : Tells (getC es ls) (es.length / 2) s r (padF 1 tale ++ wordsP ws)) : sideN es ls (s : Int) = (r, tale :: ws) := by
  have hp := padF_pos 1 tale ht
  have hne : padF 1 tale ++ wordsP ws ≠ [] := by
    intro e
    have := congrArg List.length e
    rw [List.length_append] at this
    simp only [List.length_nil] at this
    omega
  unfold sideN
  rw [H.read hne hs hr hr2]
  simp only
  have hwl := wordsP_len ws hw
  obtain ⟨f, hf⟩ : ∃ f, (padF 1 tale ++ wordsP ws).length = f + 1 := ⟨(padF 1 tale ++ wordsP ws).length - 1, by rw [List.length_append]; omega⟩
  rw [hf, openAll_frame f 1 tale _ ht, openAll_words ws f (by rw [List.length_append] at hf; omega) hw]
end P1
end Go.Vq

namespace Go.Vq
namespace P1
open Go
set_option maxRecDepth 1000000
set_option maxHeartbeats 8000000
theorem putL_get (es : List (List Nat)) (h s r : Nat) (i : Int) : ∀ (cs : List (List Nat)) (a : Nat) (ls : List (Nat × List Nat)), (∀ w ∈ putL h s r a cs, w.1 < es.length) →
    getC es (ls ++ putL h s r a cs) i = getC es ls i ∨ ∃ j, ∃ c ∈ cs, i = ((s * h + (a + j) : Nat) : Int) ∧ j < cs.length ∧ getC es (ls ++ putL h s r a cs) i = cellM (mkN r (a + j)) c
  | [], a, ls, _ => .inl (by simp [putL])
  | c :: cs, a, ls, hw => by
    have hi := hw (s * h + a, cellM (mkN r a) c) (by simp [putL])
    have e : ls ++ putL h s r a (c :: cs) = (ls ++ [(s * h + a, cellM (mkN r a) c)]) ++ putL h s r (a + 1) cs := by simp [putL]
    rw [e]
    rcases putL_get es h s r i cs (a + 1) (ls ++ [(s * h + a, cellM (mkN r a) c)]) (fun w hx => hw w (by simp [putL, hx])) with g | ⟨j, c', hc', hj, hj2, g⟩
    · rw [g]
      by_cases hx : ((s * h + a : Nat) : Int) = i
      · subst hx
        rw [getC_app_eq _ _ _ _ hi]
        exact .inr ⟨0, c, by simp, rfl, by simp, rfl⟩
      · rw [getC_app_ne _ _ _ _ _ hx]
        exact .inl rfl
    · refine .inr ⟨j + 1, c', by simp [hc'], by rw [hj]; congr 1; omega, by simp; omega, ?_⟩
      rw [g, show a + 1 + j = a + (j + 1) by omega]
theorem foldl_wr_mem : ∀ (ls : List (Nat × List Nat)) (es : List (List Nat)) (c : List Nat), c ∈ ls.foldl wr es → c ∈ es ∨ ∃ w ∈ ls, c = w.2
  | [], es, c, h => .inl h
  | w :: ls, es, c, h => by
    rcases foldl_wr_mem ls (wr es w) c h with h | ⟨w', h1, h2⟩
    · rcases List.mem_or_eq_of_mem_set h with h | h
      · exact .inl h
      · exact .inr ⟨w, by simp, h⟩
    · exact .inr ⟨w', by simp [h1], h2⟩
theorem putL_mem {h s r : Nat} : ∀ {cs : List (List Nat)} {a : Nat} {w : Nat × List Nat}, w ∈ putL h s r a cs → ∃ c ∈ cs, ∃ n, w.2 = cellM n c
  | [], _, _, hw => by simp [putL] at hw
  | c :: cs, a, w, hw => by
    rcases List.mem_cons.1 hw with rfl | hw
    · exact ⟨c, by simp, _, rfl⟩
    · obtain ⟨c', h1, h2⟩ := putL_mem hw
      exact ⟨c', by simp [h1], h2⟩
theorem endA_zero : endA zero64 = 0 := by decide +kernel
theorem endB_zero : endB zero64 = 0 := by decide +kernel
theorem markN_zero : markN zero64 = 0 := by decide +kernel
structure Log (es : List (List Nat)) (L : List (List Nat)) : Prop where
  n : es.length = 160
  pw : PW es []
  t : Tells (getC es []) 80 0 1 L
  o : ∀ j : Nat, 80 ≤ j → getC es [] (j : Int) = zero64
  top : ∀ i : Nat, endA (getC es [] i) / 65536 ≤ 1 ∧ endB (getC es [] i) / 65536 ≤ 1
theorem PW.put {es : List (List Nat)} {h s r a : Nat} {cs : List (List Nat)} (H : PW es []) (hc : ∀ c ∈ cs, c.length ≤ 48 ∧ ∀ x ∈ c, x < 256) : PW ((putL h s r a cs).foldl wr es) [] := by
  refine PW.of (fun c h => ?_) (fun w hw => by simp at hw) (by rw [foldl_wr_len]; exact H.n) (by decide)
  rcases foldl_wr_mem _ _ _ h with h | ⟨w, h1, rfl⟩
  · exact H.c c h
  · obtain ⟨c, hcs, n, e⟩ := putL_mem h1
    rw [e]
    exact cellM_C (hc c hcs).1 (hc c hcs).2
theorem Log.zero : Log (List.replicate 160 zero64) [] := by
  refine ⟨by simp, PW.of (fun c hc => by rw [List.eq_of_mem_replicate hc]; exact zero_C) (fun w hw => by simp at hw) (by simp) (by decide), ⟨by simp, fun i hi => by simp at hi, fun i _ _ => ?_⟩, fun j _ => getC_zero _ _, fun i => ?_⟩
  · rw [getC_zero, markN_zero]; unfold mkN; omega
  · rw [getC_zero, endA_zero, endB_zero]; decide
theorem Log.put {es L} (H : Log es L) {cs : List (List Nat)} (hn : L.length + cs.length ≤ 80) (hc : ∀ c ∈ cs, c.length ≤ 48 ∧ ∀ x ∈ c, x < 256) : Log ((putL 80 0 1 L.length cs).foldl wr es) (L ++ cs.map pad48) := by
  have hw := putL_ok (h := 80) (s := 0) (r := 1) (n := 160) cs L.length (fun c h => (hc c h).1) (by omega)
  have hf := getC_fold0 es (putL 80 0 1 L.length cs) (fun w h => by rw [H.n]; exact (hw w h).1)
  refine ⟨by rw [foldl_wr_len, H.n], H.pw.put hc, ?_, fun j hj => ?_, fun i => ?_⟩
  · have := Tells.put (es := es) (s := 0) (r := 1) (h := 80) (by decide) (by rw [H.n]) (by decide) (by decide) cs L [] H.t hn (fun c h => (hc c h).1)
    exact this.congr fun j _ => hf _
  · rw [hf]
    rcases putL_get es 80 0 1 j cs L.length [] (fun w h => by rw [H.n]; exact (hw w h).1) with g | ⟨k, c, _, hk, hk2, _⟩
    · rw [List.nil_append] at g; rw [g]; exact H.o j hj
    · omega
  · rw [hf]
    rcases putL_get es 80 0 1 i cs L.length [] (fun w h => by rw [H.n]; exact (hw w h).1) with g | ⟨k, c, hcs, hk, hk2, g⟩
    · rw [List.nil_append] at g; rw [g]; exact H.top i
    · rw [List.nil_append] at g
      have hb : mkN 1 (L.length + k) < 2 ^ 64 := by unfold mkN; omega
      rw [g, cellM_A _ _ hb, cellM_B _ _ (hc c hcs).1 hb]
      unfold mkN; omega
theorem topN_ge (es ls) : ∀ (n i : Nat), i < n → endA (getC es ls i) / 65536 ≤ topN es ls n
  | 0, i, h => by omega
  | n + 1, i, h => by
    simp only [topN]
    by_cases e : i = n
    · subst e; omega
    · have := topN_ge es ls n i (by omega)
      omega
theorem Log.topN {es L} (H : Log es L) (hL : L ≠ []) : topN es [] es.length = 1 := by
  have h1 := topN_le es [] 1 H.top es.length
  obtain ⟨t, _⟩ := H.t.t 0 (List.length_pos_iff.2 hL)
  have h2 := topN_ge es [] es.length 0 (by rw [H.n]; decide)
  have : endA (getC es [] ((0 : Nat) : Int)) = mkN 1 0 := by
    simp only [Nat.zero_mul, Nat.zero_add] at t
    unfold markN at t
    split at t
    · exact t
    · exact absurd t (by unfold mkN; omega)
  rw [this] at h2
  have : mkN 1 0 / 65536 = 1 := by decide
  omega
theorem sideN_zero {es : List (List Nat)} {s : Nat} (h : getC es [] ((s * (es.length / 2) : Nat) : Int) = zero64) : sideN es [] (s : Int) = (0, []) := by
  have e : readN es [] (s : Int) = (0, []) := by
    unfold readN
    split
    · rfl
    · simp only [Int.toNat_natCast, h, markN_zero]
      exact if_pos (.inl (by decide))
  unfold sideN
  rw [e]; rfl
theorem Log.openR {es tale ws} (ht : tale.length ≤ 65536) (hw : ∀ w ∈ ws, w.length ≤ 65536) (H : Log es (padF 1 tale ++ wordsP ws)) : openR es [] = (0, tale :: ws) := by
  have h0 : es.length / 2 = 80 := by rw [H.n]
  have e0 := side_log (es := es) (ls := []) (s := 0) (r := 1) (by decide) (by decide) (by decide) ht hw (by rw [h0]; exact H.t)
  have e1 := sideN_zero (es := es) (s := 1) (by rw [h0]; exact H.o _ (by decide))
  unfold P1.openR
  rw [e0, e1]
  unfold pickR
  simp
theorem Log.next {es tale ws} (ht : tale.length ≤ 65536) (hw : ∀ w ∈ ws, w.length ≤ 65536) (H : Log es (padF 1 tale ++ wordsP ws)) (body : List Nat) (hb : body.length ≤ 3000) (hby : ∀ x ∈ body, x < 256) :
    P1.openR ((putL 80 1 2 0 (pieces (frameN 1 body))).foldl wr es) [] = (1, [body]) ∧ PW ((putL 80 1 2 0 (pieces (frameN 1 body))).foldl wr es) [] ∧ ((putL 80 1 2 0 (pieces (frameN 1 body))).foldl wr es).length = 160 := by
  have hfl := frame_bd (k := 1) (show body.length ≤ 65536 by omega)
  have hf2 : (frameN 1 body).length ≤ 3010 := by
    have := flen_bd body.length (by omega)
    rw [frameN_len]; unfold flen at this; omega
  have hc1 : cellsN (frameN 1 body).length ≤ 80 := by unfold cellsN; omega
  have hp := pieces_ok (frame_byt (k := 1) (by decide) hby)
  have hwr := putL_ok (h := 80) (s := 1) (r := 2) (n := 160) (pieces (frameN 1 body)) 0 (fun c h => (hp c h).1) (by rw [pieces_len]; omega)
  have hf := getC_fold0 es (putL 80 1 2 0 (pieces (frameN 1 body))) (fun w h => by rw [H.n]; exact (hwr w h).1)
  have hl : ((putL 80 1 2 0 (pieces (frameN 1 body))).foldl wr es).length = 160 := by rw [foldl_wr_len, H.n]
  have hpw := H.pw.put (h := 80) (s := 1) (r := 2) (a := 0) hp
  have T1 : Tells (getC es (putL 80 1 2 0 (pieces (frameN 1 body)))) 80 1 2 (padF 1 body) := by
    have h0 : Tells (getC es []) 80 1 2 [] := ⟨by simp, fun i hi => by simp at hi, fun i _ _ => by rw [H.o _ (by omega), markN_zero]; unfold mkN; omega⟩
    exact Tells.put (es := es) (s := 1) (r := 2) (h := 80) (by decide) (by rw [H.n]) (by decide) (by decide) (pieces (frameN 1 body)) [] [] h0 (by rw [pieces_len]; simp only [List.length_nil]; omega) (fun c h => (hp c h).1)
  have T0 : Tells (getC es (putL 80 1 2 0 (pieces (frameN 1 body)))) 80 0 1 (padF 1 tale ++ wordsP ws) := by
    refine H.t.congr fun j hj => ?_
    rcases putL_get es 80 1 2 ((0 * 80 + j : Nat) : Int) (pieces (frameN 1 body)) 0 [] (fun w h => by rw [H.n]; exact (hwr w h).1) with g | ⟨k, c, _, hk, _, _⟩
    · exact g
    · omega
  obtain ⟨es2, h2⟩ : ∃ es2, es2 = (putL 80 1 2 0 (pieces (frameN 1 body))).foldl wr es := ⟨_, rfl⟩
  rw [← h2] at hl hpw hf ⊢
  refine ⟨?_, hpw, hl⟩
  have h0 : es2.length / 2 = 80 := by rw [hl]
  have e0 := side_log (es := es2) (ls := []) (s := 0) (r := 1) (by decide) (by decide) (by decide) ht hw (by rw [h0]; exact T0.congr fun j _ => hf _)
  have e1 := side_log (es := es2) (ls := []) (s := 1) (r := 2) (tale := body) (ws := []) (by decide) (by decide) (by decide) (by omega) (fun w hw => by simp at hw) (by
    rw [h0, show wordsP [] = [] from rfl, List.append_nil]; exact T1.congr fun j _ => hf _)
  unfold P1.openR
  rw [e0, e1]
  unfold pickR
  simp
end P1
end Go.Vq

namespace Go.Vq
namespace P1
open Go
set_option maxRecDepth 1000000
set_option maxHeartbeats 8000000
abbrev b6 : VCode := .seq (.region [⟨some 4, .assign (.val (.bool false)), none, 0⟩] false) (.seq (.seq (.region [⟨some 19, .call true 33 0 [], none, 0⟩, ⟨some 20, .un (.not) (.tmp 19), none, 1⟩] false) (.cond (.tmp 20) (.seq (.region [⟨some 4, .assign (.val (.bool false)), none, 0⟩] false) (.ret)) (.skip))) (.seq (.seq (.region [⟨some 21, .move (.tmp 0), none, 0⟩, ⟨some 22, .len (.slc 1) (.tmp 21), none, 1⟩, ⟨some 23, .bin (.gtr) (.tmp 22) (.val (.int .i64 300)), none, 3⟩, ⟨some 24, .move (.tmp 23), none, 7⟩, ⟨some 25, .move (.tmp 1), some (24, false), 15⟩, ⟨some 26, .len (.slc 1) (.tmp 25), some (24, false), 31⟩, ⟨some 27, .bin (.gtr) (.tmp 26) (.val (.int .i64 12)), some (24, false), 63⟩, ⟨some 28, .pick (.tmp 24) (.val (.bool true)) (.tmp 27), none, 127⟩] false) (.cond (.tmp 28) (.seq (.region [⟨some 4, .assign (.val (.bool true)), none, 0⟩] false) (.ret)) (.skip))) (.seq (.region [⟨some 29, .call false 13 0 [(.val (.int .i64 160))], none, 0⟩, ⟨some 5, .assign (.tmp 29), none, 1⟩] false) (.seq (.region [⟨some 31, .move (.tmp 5), none, 0⟩, ⟨some 32, .call false 34 4 [(.tmp 31)], none, 1⟩, ⟨some 30, .move (.tmp 32), none, 3⟩, ⟨some 33, .extract (.tmp 30) 0, none, 7⟩, ⟨some 34, .extract (.tmp 30) 1, none, 7⟩, ⟨some 35, .extract (.tmp 30) 2, none, 7⟩, ⟨some 6, .assign (.tmp 33), none, 15⟩, ⟨some 7, .assign (.tmp 34), none, 95⟩, ⟨some 8, .assign (.tmp 35), none, 255⟩] false) (.seq (.seq (.region [⟨some 36, .move (.tmp 6), none, 0⟩, ⟨some 37, .move (.tmp 0), none, 0⟩, ⟨some 38, .call false 35 8 [(.tmp 36), (.tmp 37)], none, 3⟩, ⟨some 39, .eq true (.num) (.tmp 38) (.val (.int .i64 0)), none, 7⟩] false) (.cond (.tmp 39) (.seq (.region [⟨some 4, .assign (.val (.bool false)), none, 0⟩] false) (.ret)) (.skip))) (.seq (.seq (.region [⟨some 40, .move (.tmp 1), none, 0⟩, ⟨some 41, .len (.slc 1) (.tmp 40), none, 1⟩, ⟨some 42, .move (.val (.int .i64 0)), none, 0⟩] false) (.block 0 (some [0, 1, 5, 6, 33]) (.loop (some [0, 1, 5, 6, 33, 40, 41, 42]) (.seq (.region [⟨some 43, .bin (.lss) (.tmp 42) (.tmp 41), none, 0⟩] false) (.seq (.cond (.tmp 43) (.skip) (.exit 0)) (.seq (.block 1 none (.seq (.region [⟨some 44, .indexAddr none 1 (.tmp 40) (.tmp 42), none, 0⟩, ⟨some 45, .load false 1 (.tmp 44), none, 1⟩, ⟨some 10, .assign (.tmp 45), none, 3⟩] false) (.seq (.region [⟨some 46, .move (.tmp 10), none, 0⟩, ⟨some 47, .len (.slc 1) (.tmp 46), none, 1⟩, ⟨some 48, .bin (.gtr) (.tmp 47) (.val (.int .i64 150)), none, 3⟩, ⟨some 49, .move (.tmp 48), none, 7⟩, ⟨some 50, .move (.tmp 6), some (49, false), 15⟩, ⟨some 51, .move (.tmp 10), some (49, false), 15⟩, ⟨some 52, .call false 36 8 [(.tmp 50), (.tmp 51)], some (49, false), 63⟩, ⟨some 53, .eq true (.num) (.tmp 52) (.val (.int .i64 0)), some (49, false), 127⟩, ⟨some 54, .pick (.tmp 49) (.val (.bool true)) (.tmp 53), none, 255⟩, ⟨some 55, .move (.tmp 54), none, 511⟩, ⟨some 56, .move (.tmp 6), some (55, false), 1023⟩, ⟨some 57, .call false 37 8 [(.tmp 56)], some (55, false), 2047⟩, ⟨some 58, .eq true (.num) (.tmp 57) (.val (.int .i64 0)), some (55, false), 4095⟩, ⟨some 59, .pick (.tmp 55) (.val (.bool true)) (.tmp 58), none, 8191⟩] false) (.cond (.tmp 59) (.seq (.region [⟨some 60, .move (.tmp 10), none, 0⟩, ⟨some 61, .len (.slc 1) (.tmp 60), none, 1⟩, ⟨some 62, .bin (.gtr) (.tmp 61) (.val (.int .i64 150)), none, 3⟩, ⟨some 4, .assign (.tmp 62), none, 7⟩] false) (.ret)) (.skip))))) (.region [⟨some 63, .bin (.add) (.tmp 42) (.val (.int .i64 1)), none, 0⟩, ⟨some 42, .move (.tmp 63), none, 1⟩] false))))))) (.seq (.seq (.region [⟨some 11, .assign (.val (.int .i64 0)), none, 0⟩] false) (.block 2 (some [5, 6, 33]) (.loop (some [0, 1, 5, 6, 11, 33]) (.seq (.seq (.region [⟨some 64, .move (.tmp 11), none, 0⟩, ⟨some 65, .bin (.lss) (.tmp 64) (.val (.int .i64 3)), none, 1⟩] false) (.cond (.tmp 65) (.skip) (.exit 2))) (.seq (.block 3 (some [0, 1, 5, 6, 11, 33]) (.seq (.region [⟨some 69, .move (.tmp 5), none, 0⟩, ⟨some 70, .call false 34 8 [(.tmp 69)], none, 1⟩, ⟨some 68, .move (.tmp 70), none, 3⟩, ⟨some 71, .extract (.tmp 68) 0, none, 7⟩, ⟨some 72, .extract (.tmp 68) 1, none, 7⟩, ⟨some 73, .extract (.tmp 68) 2, none, 7⟩, ⟨some 12, .assign (.tmp 71), none, 15⟩, ⟨some 13, .assign (.tmp 72), none, 95⟩, ⟨some 14, .assign (.tmp 73), none, 255⟩] false) (.seq (.seq (.region [⟨some 74, .move (.tmp 13), none, 0⟩, ⟨some 75, .conv (.text) (.tmp 74), none, 1⟩, ⟨some 76, .move (.tmp 0), none, 0⟩, ⟨some 77, .conv (.text) (.tmp 76), none, 4⟩, ⟨some 78, .eq true (.num) (.tmp 75) (.tmp 77), none, 15⟩, ⟨some 79, .move (.tmp 78), none, 31⟩, ⟨some 80, .move (.tmp 14), some (79, false), 63⟩, ⟨some 81, .len (.slc 1) (.tmp 80), some (79, false), 127⟩, ⟨some 82, .move (.tmp 1), some (79, false), 63⟩, ⟨some 83, .len (.slc 1) (.tmp 82), some (79, false), 319⟩, ⟨some 84, .eq true (.num) (.tmp 81) (.tmp 83), some (79, false), 1023⟩, ⟨some 85, .pick (.tmp 79) (.val (.bool true)) (.tmp 84), none, 2047⟩] false) (.cond (.tmp 85) (.seq (.region [⟨some 4, .assign (.val (.bool false)), none, 0⟩] false) (.ret)) (.skip))) (.seq (.region [⟨some 86, .move (.tmp 14), none, 0⟩, ⟨some 87, .len (.slc 1) (.tmp 86), none, 1⟩, ⟨some 88, .move (.val (.int .i64 0)), none, 0⟩] false) (.block 4 (some [0, 1, 5, 6, 11, 33]) (.loop (some [0, 1, 5, 6, 11, 14, 33, 73, 87, 88]) (.seq (.region [⟨some 89, .bin (.lss) (.tmp 88) (.tmp 87), none, 0⟩] false) (.seq (.cond (.tmp 89) (.skip) (.exit 4)) (.seq (.block 5 none (.seq (.region [⟨some 90, .move (.tmp 88), none, 0⟩, ⟨some 15, .assign (.tmp 90), none, 1⟩] false) (.seq (.region [⟨some 91, .move (.tmp 14), none, 0⟩, ⟨some 92, .move (.tmp 15), none, 0⟩, ⟨some 93, .indexAddr none 1 (.tmp 91) (.tmp 92), none, 3⟩, ⟨some 94, .load false 1 (.tmp 93), none, 7⟩, ⟨some 95, .conv (.text) (.tmp 94), none, 15⟩, ⟨some 96, .move (.tmp 1), none, 0⟩, ⟨some 97, .move (.tmp 15), none, 0⟩, ⟨some 98, .indexAddr none 1 (.tmp 96) (.tmp 97), none, 96⟩, ⟨some 99, .load false 1 (.tmp 98), none, 224⟩, ⟨some 100, .conv (.text) (.tmp 99), none, 480⟩, ⟨some 101, .eq true (.num) (.tmp 95) (.tmp 100), none, 1023⟩] true) (.cond (.tmp 101) (.seq (.region [⟨some 4, .assign (.val (.bool false)), none, 0⟩] false) (.ret)) (.skip))))) (.region [⟨some 102, .bin (.add) (.tmp 88) (.val (.int .i64 1)), none, 0⟩, ⟨some 88, .move (.tmp 102), none, 1⟩] false)))))))))) (.region [⟨some 66, .move (.tmp 11), none, 0⟩, ⟨some 67, .bin (.add) (.tmp 66) (.val (.int .i64 1)), none, 1⟩, ⟨some 11, .assign (.tmp 67), none, 3⟩] false)))))) (.seq (.seq (.region [⟨some 103, .move (.tmp 6), none, 0⟩, ⟨some 104, .buildSlice 1 [(.int .u8 0), (.int .u8 0), (.int .u8 0)] [(0, (.val (.int .u8 110))), (1, (.val (.int .u8 101))), (2, (.val (.int .u8 119)))], none, 0⟩, ⟨some 105, .conv (.lit) (.tmp 104), none, 2⟩, ⟨some 106, .call false 35 12 [(.tmp 103), (.tmp 105)], none, 7⟩, ⟨some 107, .eq true (.num) (.tmp 106) (.val (.int .i64 0)), none, 15⟩] false) (.cond (.tmp 107) (.seq (.region [⟨some 4, .assign (.val (.bool false)), none, 0⟩] false) (.ret)) (.skip))) (.seq (.region [⟨some 109, .move (.tmp 5), none, 0⟩, ⟨some 110, .call false 34 12 [(.tmp 109)], none, 1⟩, ⟨some 108, .move (.tmp 110), none, 3⟩, ⟨some 111, .extract (.tmp 108) 0, none, 7⟩, ⟨some 112, .extract (.tmp 108) 1, none, 7⟩, ⟨some 113, .extract (.tmp 108) 2, none, 7⟩, ⟨some 16, .assign (.tmp 111), none, 15⟩, ⟨some 17, .assign (.tmp 112), none, 95⟩, ⟨some 18, .assign (.tmp 113), none, 255⟩] false) (.seq (.region [⟨some 114, .move (.tmp 17), none, 0⟩, ⟨some 115, .conv (.text) (.tmp 114), none, 1⟩, ⟨some 116, .eq false (.num) (.tmp 115) (.val (.str [110, 101, 119])), none, 3⟩, ⟨some 117, .move (.tmp 116), none, 7⟩, ⟨some 118, .move (.tmp 18), some (117, true), 15⟩, ⟨some 119, .len (.slc 1) (.tmp 118), some (117, true), 31⟩, ⟨some 120, .eq false (.num) (.tmp 119) (.val (.int .i64 0)), some (117, true), 63⟩, ⟨some 121, .pick (.tmp 117) (.tmp 120) (.val (.bool false)), none, 127⟩, ⟨some 4, .assign (.tmp 121), none, 255⟩] false) (.ret)))))))))))
abbrev v6 : VFunc := { nparams := 2, ntmps := 122, nsites := 16, results := [.tmp 4], body := b6 }
abbrev newB : List Nat := [110, 101, 119]
def SAg1 (tale : List Nat) (ws : List (List Nat)) (E : Nat → List (List Nat)) (A : Nat → Nat) (k : Nat) : St :=
  ⟨(.isl 0 1 (byN tale) :: .isl 0 1 (ws.map iB) :: .gone 0 :: .gone 0 :: .gone 0 :: .ptr (.obj 0 0) :: .ptr (.obj 4 0) :: .gone 0 :: .gone 0 :: .gone 0 :: .gone 0 :: .gone 0 :: .gone 0 :: .gone 0 :: .gone 0 :: .gone 0 :: .gone 0 :: .gone 0 :: .gone 0 :: .gone 0 :: .gone 0 :: .gone 0 :: .gone 0 :: .gone 0 :: .gone 0 :: .gone 0 :: .gone 0 :: .gone 0 :: .gone 0 :: .gone 0 :: .gone 0 :: .gone 0 :: .gone 0 :: .ptr (.obj 4 0) :: .gone 0 :: .gone 0 :: .gone 0 :: .gone 0 :: .gone 0 :: .gone 0 :: .isl 0 1 (ws.map iB) :: .int .i64 ws.length :: .int .i64 k :: .gone 0 :: .gone 0 :: .gone 0 :: .gone 0 :: .gone 0 :: .gone 0 :: .gone 0 :: .gone 0 :: .gone 0 :: .gone 0 :: .gone 0 :: .gone 0 :: .gone 0 :: .gone 0 :: .gone 0 :: .gone 0 :: .gone 0 :: .gone 0 :: .gone 0 :: .gone 0 :: .gone 0 :: .gone 0 :: .gone 0 :: .gone 0 :: .gone 0 :: .gone 0 :: .gone 0 :: .gone 0 :: .gone 0 :: .gone 0 :: .gone 0 :: .gone 0 :: .gone 0 :: .gone 0 :: .gone 0 :: .gone 0 :: .gone 0 :: .gone 0 :: .gone 0 :: .gone 0 :: .gone 0 :: .gone 0 :: .gone 0 :: .gone 0 :: .gone 0 :: .gone 0 :: .gone 0 :: .gone 0 :: .gone 0 :: .gone 0 :: .gone 0 :: .gone 0 :: .gone 0 :: .gone 0 :: .gone 0 :: .gone 0 :: .gone 0 :: .gone 0 :: .gone 0 :: .gone 0 :: .gone 0 :: .gone 0 :: .gone 0 :: .gone 0 :: .gone 0 :: .gone 0 :: .gone 0 :: .gone 0 :: .gone 0 :: .gone 0 :: .gone 0 :: .gone 0 :: .gone 0 :: .gone 0 :: .gone 0 :: .gone 0 :: .gone 0 :: .gone 0 :: .gone 0 :: []),
    [some (plateO (E k) false [] false (-1)), none, none, none, some (reelO 0 0 1 (A k) true), none, none, none, none, none, none, none, none, none, none, none]⟩
def SAg2 (tale : List Nat) (ws : List (List Nat)) (e : List (List Nat)) (a : Nat) (k : Nat × Bool) : St :=
  ⟨(.isl 0 1 (byN tale) :: .isl 0 1 (ws.map iB) :: .gone 0 :: .gone 0 :: .gone 0 :: .ptr (.obj 0 0) :: .ptr (.obj 4 0) :: .gone 0 :: .gone 0 :: .gone 0 :: .gone 0 :: .int .i64 k.1 :: .gone 0 :: .gone 0 :: .gone 0 :: .gone 0 :: .gone 0 :: .gone 0 :: .gone 0 :: .gone 0 :: .gone 0 :: .gone 0 :: .gone 0 :: .gone 0 :: .gone 0 :: .gone 0 :: .gone 0 :: .gone 0 :: .gone 0 :: .gone 0 :: .gone 0 :: .gone 0 :: .gone 0 :: .ptr (.obj 4 0) :: .gone 0 :: .gone 0 :: .gone 0 :: .gone 0 :: .gone 0 :: .gone 0 :: .gone 0 :: .gone 0 :: .gone 0 :: .gone 0 :: .gone 0 :: .gone 0 :: .gone 0 :: .gone 0 :: .gone 0 :: .gone 0 :: .gone 0 :: .gone 0 :: .gone 0 :: .gone 0 :: .gone 0 :: .gone 0 :: .gone 0 :: .gone 0 :: .gone 0 :: .gone 0 :: .gone 0 :: .gone 0 :: .gone 0 :: .gone 0 :: .gone 0 :: .gone 0 :: .gone 0 :: .gone 0 :: .gone 0 :: .gone 0 :: .gone 0 :: .gone 0 :: .gone 0 :: .gone 0 :: .gone 0 :: .gone 0 :: .gone 0 :: .gone 0 :: .gone 0 :: .gone 0 :: .gone 0 :: .gone 0 :: .gone 0 :: .gone 0 :: .gone 0 :: .gone 0 :: .gone 0 :: .gone 0 :: .gone 0 :: .gone 0 :: .gone 0 :: .gone 0 :: .gone 0 :: .gone 0 :: .gone 0 :: .gone 0 :: .gone 0 :: .gone 0 :: .gone 0 :: .gone 0 :: .gone 0 :: .gone 0 :: .gone 0 :: .gone 0 :: .gone 0 :: .gone 0 :: .gone 0 :: .gone 0 :: .gone 0 :: .gone 0 :: .gone 0 :: .gone 0 :: .gone 0 :: .gone 0 :: .gone 0 :: .gone 0 :: .gone 0 :: .gone 0 :: .gone 0 :: .gone 0 :: .gone 0 :: .gone 0 :: []),
    [some (plateO e k.2 [] false (-1)), none, none, none, some (reelO 0 0 1 a true), none, none, none, none, none, none, none, none, none, none, none]⟩
def SAg3 (tale : List Nat) (ws : List (List Nat)) (e : List (List Nat)) (a j k : Nat) : St :=
  ⟨(.isl 0 1 (byN tale) :: .isl 0 1 (ws.map iB) :: .gone 0 :: .gone 0 :: .gone 0 :: .ptr (.obj 0 0) :: .ptr (.obj 4 0) :: .gone 0 :: .gone 0 :: .gone 0 :: .gone 0 :: .int .i64 j :: .gone 0 :: .gone 0 :: .xsl 0 1 (ws.map iB) :: .gone 0 :: .gone 0 :: .gone 0 :: .gone 0 :: .gone 0 :: .gone 0 :: .gone 0 :: .gone 0 :: .gone 0 :: .gone 0 :: .gone 0 :: .gone 0 :: .gone 0 :: .gone 0 :: .gone 0 :: .gone 0 :: .gone 0 :: .gone 0 :: .ptr (.obj 4 0) :: .gone 0 :: .gone 0 :: .gone 0 :: .gone 0 :: .gone 0 :: .gone 0 :: .gone 0 :: .gone 0 :: .gone 0 :: .gone 0 :: .gone 0 :: .gone 0 :: .gone 0 :: .gone 0 :: .gone 0 :: .gone 0 :: .gone 0 :: .gone 0 :: .gone 0 :: .gone 0 :: .gone 0 :: .gone 0 :: .gone 0 :: .gone 0 :: .gone 0 :: .gone 0 :: .gone 0 :: .gone 0 :: .gone 0 :: .gone 0 :: .gone 0 :: .gone 0 :: .gone 0 :: .gone 0 :: .gone 0 :: .gone 0 :: .gone 0 :: .gone 0 :: .gone 0 :: .gone 0 :: .gone 0 :: .gone 0 :: .gone 0 :: .gone 0 :: .gone 0 :: .gone 0 :: .gone 0 :: .gone 0 :: .gone 0 :: .gone 0 :: .gone 0 :: .gone 0 :: .gone 0 :: .int .i64 ws.length :: .int .i64 k :: .gone 0 :: .gone 0 :: .gone 0 :: .gone 0 :: .gone 0 :: .gone 0 :: .gone 0 :: .gone 0 :: .gone 0 :: .gone 0 :: .gone 0 :: .gone 0 :: .gone 0 :: .gone 0 :: .gone 0 :: .gone 0 :: .gone 0 :: .gone 0 :: .gone 0 :: .gone 0 :: .gone 0 :: .gone 0 :: .gone 0 :: .gone 0 :: .gone 0 :: .gone 0 :: .gone 0 :: .gone 0 :: .gone 0 :: .gone 0 :: .gone 0 :: .gone 0 :: .gone 0 :: []),
    [some (plateO e true [] false (-1)), none, none, none, some (reelO 0 0 1 a true), none, none, none, none, none, none, none, none, none, none, none]⟩
section
variable {G : VProg}
theorem againWalk (hG : G 6 = some (.code v6)) (hA : lim G 33 [] [] = some (.bool true, []))
    (tale : List Nat) (ws : List (List Nat)) (E : Nat → List (List Nat)) (A : Nat → Nat) (LS : Nat → List (Nat × List Nat)) (e0 e2 : List (List Nat))
    (b1 : decide (300 < (tale.length : Int)) = false) (b2 : decide (12 < (ws.length : Int)) = false)
    (t0 : lim G 13 [.int .i64 160] [] = some (q0, [plateO e0 false [] false (-1)]))
    (t1 : lim G 34 [q0] [plateO e0 false [] false (-1)] = some (.tup [.ptr (.obj 1 0), .xsl 0 1 [], .xsl 0 1 []], [plateO e0 true [] false (-1), reelO 0 1 0 0 false]))
    (t2 : lim G 35 [q0, .isl 0 1 (byN tale)] [reelO 1 1 0 0 false, plateO e0 true [] false (-1)] = some (.int .i64 0, [reelO 1 0 1 (A 0) true, plateO (E 0) false [] false (-1)]))
    (a1 : ∀ (k : Nat) (b : List Nat), ws[k]? = some b → (∀ (i : Nat) (b : List Nat), i ≤ k → ws[i]? = some b → b.length ≤ 150) → lim G 36 [q0, .isl 0 1 (byN b)] [reelO 1 0 1 (A k) true, plateO (E k) false [] false (-1)] = some (.int .i64 0, [reelO 1 0 1 (A (k + 1)) true, plateO (E k) false (LS k) false (-1)]) ∧
      lim G 37 [q0] [reelO 1 0 1 (A (k + 1)) true, plateO (E k) false (LS k) false (-1)] = some (.int .i64 0, [reelO 1 0 1 (A (k + 1)) true, plateO (E (k + 1)) false [] false (-1)]))
    (c1 : (∀ (i : Nat) (b : List Nat), ws[i]? = some b → b.length ≤ 150) → (∀ fz, lim G 34 [q0] [plateO (E ws.length) fz [] false (-1)] = some (.tup [.ptr (.obj 1 0), .isl 0 1 (byN tale), .xsl 0 1 (ws.map iB)], [plateO (E ws.length) true [] false (-1), reelO 0 0 0 0 false])) ∧
      (∀ fz, lim G 35 [q0, .isl 0 1 (byN newB)] [reelO 1 0 1 (A ws.length) true, plateO (E ws.length) fz [] false (-1)] = some (.int .i64 0, [reelO 1 1 2 1 true, plateO e2 false [] false (-1)])) ∧
      lim G 34 [q0] [plateO e2 false [] false (-1)] = some (.tup [.ptr (.obj 1 0), .isl 0 1 (byN newB), .xsl 0 1 []], [plateO e2 true [] false (-1), reelO 0 1 0 0 false])) :
    lim G 6 [.isl 0 1 (byN tale), .isl 0 1 (ws.map iB)] [] = some (.bool true, []) := by
  have F := And.intro b1 b2
  refine lim_fun hG (h := runV F trivial ?_)
  clear t0 t1 t2
  have hn : ws.length ≤ 12 := by simp at b2; omega
  refine WL_loop (SAg1 tale ws E A) (fun k => k ≤ ws.length ∧ ∀ (i : Nat) (b : List Nat), i < k → ws[i]? = some b → b.length ≤ 150) (fun k => ws.length - k) ?_ 0 _ ⟨Nat.zero_le _, fun i b h => by omega⟩ (by kernel_rfl)
  rintro k ⟨hk, hpre⟩
  by_cases hlt : k < ws.length
  · have c2 : decide ((k : Int) < (ws.length : Int)) = true := by simp; omega
    have i1 := inc64 k (by omega)
    have hil : (k : Int) < (ws.length : Int) := by omega
    obtain ⟨b, hb⟩ : ∃ b, ws[k]? = some b := ⟨_, List.getElem?_eq_getElem hlt⟩
    have hg : (ws.map iB)[k]? = some (iB b) := by rw [List.getElem?_map, hb]; rfl
    clear c1
    unfold SAg1
    cases b3 : decide (150 < (b.length : Int))
    · have hbl : b.length ≤ 150 := by simp at b3; omega
      have hpre' : ∀ (i : Nat) (b : List Nat), i ≤ k → ws[i]? = some b → b.length ≤ 150 := by
        intro i b' hi hb'
        by_cases e : i = k
        · subst e; rw [hb] at hb'; cases hb'; exact hbl
        · exact hpre i b' (by omega) hb'
      obtain ⟨t4, t5⟩ := a1 k b hb hpre'
      clear a1
      refine runV (And.intro c2 (And.intro i1 (And.intro hil (And.intro hg b3)))) trivial ?_
      exact Qr_n (k + 1) (by kernel_rfl) ⟨⟨by omega, fun i b h => hpre' i b (by omega)⟩, by omega⟩
    · clear a1
      refine runV (And.intro c2 (And.intro i1 (And.intro hil (And.intro hg b3)))) trivial ?_
      exact Qr_r (Qb_r (Qs_r (Qe_r (by kernel_rfl))))
  · obtain rfl : k = ws.length := by omega
    have c2 : decide ((ws.length : Int) < (ws.length : Int)) = false := by simp
    obtain ⟨t1, t2, t3⟩ := c1 fun i b hb => hpre i b (by
      obtain ⟨h, _⟩ := List.getElem?_eq_some_iff.1 hb
      exact h) hb
    clear a1 c1 hpre
    unfold SAg1
    refine runV c2 trivial ?_
    refine Qr_x ?_
    obtain ⟨e, he⟩ : ∃ e, e = E ws.length := ⟨_, rfl⟩
    obtain ⟨a, ha⟩ : ∃ a, a = A ws.length := ⟨_, rfl⟩
    rw [← he, ← ha] at t2
    rw [← he] at t1
    refine Qb_x (σ1 := ⟨(.isl 0 1 (byN tale) :: .isl 0 1 (ws.map iB) :: .gone 0 :: .gone 0 :: .gone 0 :: .ptr (.obj 0 0) :: .ptr (.obj 4 0) :: .gone 0 :: .gone 0 :: .gone 0 :: .gone 0 :: .gone 0 :: .gone 0 :: .gone 0 :: .gone 0 :: .gone 0 :: .gone 0 :: .gone 0 :: .gone 0 :: .gone 0 :: .gone 0 :: .gone 0 :: .gone 0 :: .gone 0 :: .gone 0 :: .gone 0 :: .gone 0 :: .gone 0 :: .gone 0 :: .gone 0 :: .gone 0 :: .gone 0 :: .gone 0 :: .ptr (.obj 4 0) :: .gone 0 :: .gone 0 :: .gone 0 :: .gone 0 :: .gone 0 :: .gone 0 :: .gone 0 :: .gone 0 :: .gone 0 :: .gone 0 :: .gone 0 :: .gone 0 :: .gone 0 :: .gone 0 :: .gone 0 :: .gone 0 :: .gone 0 :: .gone 0 :: .gone 0 :: .gone 0 :: .gone 0 :: .gone 0 :: .gone 0 :: .gone 0 :: .gone 0 :: .gone 0 :: .gone 0 :: .gone 0 :: .gone 0 :: .gone 0 :: .gone 0 :: .gone 0 :: .gone 0 :: .gone 0 :: .gone 0 :: .gone 0 :: .gone 0 :: .gone 0 :: .gone 0 :: .gone 0 :: .gone 0 :: .gone 0 :: .gone 0 :: .gone 0 :: .gone 0 :: .gone 0 :: .gone 0 :: .gone 0 :: .gone 0 :: .gone 0 :: .gone 0 :: .gone 0 :: .gone 0 :: .gone 0 :: .gone 0 :: .gone 0 :: .gone 0 :: .gone 0 :: .gone 0 :: .gone 0 :: .gone 0 :: .gone 0 :: .gone 0 :: .gone 0 :: .gone 0 :: .gone 0 :: .gone 0 :: .gone 0 :: .gone 0 :: .gone 0 :: .gone 0 :: .gone 0 :: .gone 0 :: .gone 0 :: .gone 0 :: .gone 0 :: .gone 0 :: .gone 0 :: .gone 0 :: .gone 0 :: .gone 0 :: .gone 0 :: .gone 0 :: .gone 0 :: .gone 0 :: .gone 0 :: .gone 0 :: .gone 0 :: []),
      [some (plateO e false [] false (-1)), none, none, none, some (reelO 0 0 1 a true), none, none, none, none, none, none, none, none, none, none, none]⟩) (by rw [he, ha]; kernel_rfl) ?_
    refine runV trivial trivial ?_
    refine WL_loop (SAg2 tale ws e a) (fun x => x.1 ≤ 3) (fun x => 3 - x.1) ?_ (0, false) _ (Nat.zero_le _) (by kernel_rfl)
    rintro ⟨j, fz⟩ hj
    simp only at hj
    by_cases hj3 : j < 3
    · have c3 : decide ((j : Int) < 3) = true := by simp; omega
      have i1 := inc64 j (by omega)
      have t4 := t1 fz
      have ht : textV (byN tale) = some (strN tale) := textV_by _
      clear t1 t2 t3
      unfold SAg2
      cases fz
      all_goals
        refine runV (And.intro c3 (And.intro i1 ht)) trivial ?_
        refine WL_loop (SAg3 tale ws e a j) (fun k => k ≤ ws.length) (fun k => ws.length - k) ?_ 0 _ (Nat.zero_le _) (by kernel_rfl)
        intro k hk
        by_cases hkl : k < ws.length
        · have c4 : decide ((k : Int) < (ws.length : Int)) = true := by simp; omega
          have i2 := inc64 k (by omega)
          have hil : (k : Int) < (ws.length : Int) := by omega
          obtain ⟨b, hb⟩ : ∃ b, ws[k]? = some b := ⟨_, List.getElem?_eq_getElem hkl⟩
          have hg : (ws.map iB)[k]? = some (iB b) := by rw [List.getElem?_map, hb]; rfl
          have ht2 : textV (byN b) = some (strN b) := textV_by _
          clear t4
          unfold SAg3
          refine runV (And.intro c4 (And.intro i2 (And.intro hil (And.intro hg ht2)))) trivial ?_
          exact Qr_n (k + 1) (by kernel_rfl) ⟨by omega, by omega⟩
        · obtain rfl : k = ws.length := by omega
          have c4 : decide ((ws.length : Int) < (ws.length : Int)) = false := by simp
          clear t4
          unfold SAg3
          refine runV c4 trivial ?_
          refine Qr_x ?_
          refine Qb_x (σ1 := SAg2 tale ws e a (j, true)) (by kernel_rfl) ?_
          refine Qb_n (σ1 := SAg2 tale ws e a (j, true)) (by kernel_rfl) ?_
          unfold SAg2
          refine runV i1 trivial ?_
          exact Qr_n (j + 1, true) (by kernel_rfl) ⟨by simp only; omega, by simp only; omega⟩
    · obtain rfl : j = 3 := by omega
      have c3 : decide (((3 : Nat) : Int) < 3) = false := by decide
      have t4 : lim G 35 [q0, .isl 0 1 [.int .u8 110, .int .u8 101, .int .u8 119]] [reelO 1 0 1 a true, plateO e fz [] false (-1)] = some (.int .i64 0, [reelO 1 1 2 1 true, plateO e2 false [] false (-1)]) := t2 fz
      have t5 : lim G 34 [q0] [plateO e2 false [] false (-1)] = some (.tup [.ptr (.obj 1 0), .isl 0 1 [.int .u8 110, .int .u8 101, .int .u8 119], .xsl 0 1 []], [plateO e2 true [] false (-1), reelO 0 1 0 0 false]) := t3
      have ht : textV [.int .u8 110, .int .u8 101, .int .u8 119] = some [110, 101, 119] := by kernel_rfl
      clear t1 t2 t3
      unfold SAg2
      cases fz
      case false =>
        refine runV c3 trivial ?_
        refine Qr_x ?_
        refine Qb_x (σ1 := ⟨(.gone 0 :: .gone 0 :: .gone 0 :: .gone 0 :: .gone 0 :: .ptr (.obj 0 0) :: .ptr (.obj 4 0) :: .gone 0 :: .gone 0 :: .gone 0 :: .gone 0 :: .gone 0 :: .gone 0 :: .gone 0 :: .gone 0 :: .gone 0 :: .gone 0 :: .gone 0 :: .gone 0 :: .gone 0 :: .gone 0 :: .gone 0 :: .gone 0 :: .gone 0 :: .gone 0 :: .gone 0 :: .gone 0 :: .gone 0 :: .gone 0 :: .gone 0 :: .gone 0 :: .gone 0 :: .gone 0 :: .ptr (.obj 4 0) :: .gone 0 :: .gone 0 :: .gone 0 :: .gone 0 :: .gone 0 :: .gone 0 :: .gone 0 :: .gone 0 :: .gone 0 :: .gone 0 :: .gone 0 :: .gone 0 :: .gone 0 :: .gone 0 :: .gone 0 :: .gone 0 :: .gone 0 :: .gone 0 :: .gone 0 :: .gone 0 :: .gone 0 :: .gone 0 :: .gone 0 :: .gone 0 :: .gone 0 :: .gone 0 :: .gone 0 :: .gone 0 :: .gone 0 :: .gone 0 :: .gone 0 :: .gone 0 :: .gone 0 :: .gone 0 :: .gone 0 :: .gone 0 :: .gone 0 :: .gone 0 :: .gone 0 :: .gone 0 :: .gone 0 :: .gone 0 :: .gone 0 :: .gone 0 :: .gone 0 :: .gone 0 :: .gone 0 :: .gone 0 :: .gone 0 :: .gone 0 :: .gone 0 :: .gone 0 :: .gone 0 :: .gone 0 :: .gone 0 :: .gone 0 :: .gone 0 :: .gone 0 :: .gone 0 :: .gone 0 :: .gone 0 :: .gone 0 :: .gone 0 :: .gone 0 :: .gone 0 :: .gone 0 :: .gone 0 :: .gone 0 :: .gone 0 :: .gone 0 :: .gone 0 :: .gone 0 :: .gone 0 :: .gone 0 :: .gone 0 :: .gone 0 :: .gone 0 :: .gone 0 :: .gone 0 :: .gone 0 :: .gone 0 :: .gone 0 :: .gone 0 :: .gone 0 :: .gone 0 :: .gone 0 :: .gone 0 :: .gone 0 :: []), [some (plateO e false [] false (-1)), none, none, none, some (reelO 0 0 1 a true), none, none, none, none, none, none, none, none, none, none, none]⟩) (by kernel_rfl) ?_
        exact runV ht trivial trivial
      case true =>
        refine runV c3 trivial ?_
        refine Qr_x ?_
        refine Qb_x (σ1 := ⟨(.gone 0 :: .gone 0 :: .gone 0 :: .gone 0 :: .gone 0 :: .ptr (.obj 0 0) :: .ptr (.obj 4 0) :: .gone 0 :: .gone 0 :: .gone 0 :: .gone 0 :: .gone 0 :: .gone 0 :: .gone 0 :: .gone 0 :: .gone 0 :: .gone 0 :: .gone 0 :: .gone 0 :: .gone 0 :: .gone 0 :: .gone 0 :: .gone 0 :: .gone 0 :: .gone 0 :: .gone 0 :: .gone 0 :: .gone 0 :: .gone 0 :: .gone 0 :: .gone 0 :: .gone 0 :: .gone 0 :: .ptr (.obj 4 0) :: .gone 0 :: .gone 0 :: .gone 0 :: .gone 0 :: .gone 0 :: .gone 0 :: .gone 0 :: .gone 0 :: .gone 0 :: .gone 0 :: .gone 0 :: .gone 0 :: .gone 0 :: .gone 0 :: .gone 0 :: .gone 0 :: .gone 0 :: .gone 0 :: .gone 0 :: .gone 0 :: .gone 0 :: .gone 0 :: .gone 0 :: .gone 0 :: .gone 0 :: .gone 0 :: .gone 0 :: .gone 0 :: .gone 0 :: .gone 0 :: .gone 0 :: .gone 0 :: .gone 0 :: .gone 0 :: .gone 0 :: .gone 0 :: .gone 0 :: .gone 0 :: .gone 0 :: .gone 0 :: .gone 0 :: .gone 0 :: .gone 0 :: .gone 0 :: .gone 0 :: .gone 0 :: .gone 0 :: .gone 0 :: .gone 0 :: .gone 0 :: .gone 0 :: .gone 0 :: .gone 0 :: .gone 0 :: .gone 0 :: .gone 0 :: .gone 0 :: .gone 0 :: .gone 0 :: .gone 0 :: .gone 0 :: .gone 0 :: .gone 0 :: .gone 0 :: .gone 0 :: .gone 0 :: .gone 0 :: .gone 0 :: .gone 0 :: .gone 0 :: .gone 0 :: .gone 0 :: .gone 0 :: .gone 0 :: .gone 0 :: .gone 0 :: .gone 0 :: .gone 0 :: .gone 0 :: .gone 0 :: .gone 0 :: .gone 0 :: .gone 0 :: .gone 0 :: .gone 0 :: .gone 0 :: .gone 0 :: .gone 0 :: []), [some (plateO e true [] false (-1)), none, none, none, some (reelO 0 0 1 a true), none, none, none, none, none, none, none, none, none, none, none]⟩) (by kernel_rfl) ?_
        exact runV ht trivial trivial
end
end P1
end Go.Vq

namespace Go.Vq
namespace P1
open Go
set_option maxRecDepth 1000000
set_option maxHeartbeats 8000000
def agL (tale : List Nat) (ws : List (List Nat)) (k : Nat) : List (List Nat) := padF 1 tale ++ wordsP (ws.take k)
def agE (tale : List Nat) (ws : List (List Nat)) : Nat → List (List Nat)
  | 0 => (putL 80 0 1 0 (pieces (frameN 1 tale))).foldl wr (List.replicate 160 zero64)
  | k + 1 => (putL 80 0 1 (agL tale ws k).length (pieces (frameN 2 (ws.getD k [])))).foldl wr (agE tale ws k)
theorem wordsP_snoc (ws : List (List Nat)) (w : List Nat) : wordsP (ws ++ [w]) = wordsP ws ++ padF 2 w := by simp [wordsP]
theorem agL_succ (tale ws) (k : Nat) (b : List Nat) (h : ws[k]? = some b) : agL tale ws (k + 1) = agL tale ws k ++ padF 2 b := by
  unfold agL
  rw [List.take_add_one, h, Option.toList_some, wordsP_snoc, List.append_assoc]
theorem cells_bd (k : Nat) (b : List Nat) (n : Nat) (h : b.length ≤ n) (hn : n ≤ 65000) : cellsN (frameN k b).length ≤ (n + 57) / 48 := by
  have := flen_bd b.length (by omega)
  rw [frameN_len]
  unfold flen at this
  unfold cellsN
  omega
theorem agLog {tale ws} (ht : tale.length ≤ 300) (htb : ∀ x ∈ tale, x < 256) (hwb : ∀ w ∈ ws, ∀ x ∈ w, x < 256) (hn : ws.length ≤ 12) : ∀ k, k ≤ ws.length → (∀ (i : Nat) (b : List Nat), i < k → ws[i]? = some b → b.length ≤ 150) →
    Log (agE tale ws k) (agL tale ws k) ∧ (agL tale ws k).length ≤ 7 + 4 * k
  | 0, _, _ => by
    have hp := pieces_ok (frame_byt (k := 1) (by decide) htb)
    have hc := cells_bd 1 tale 300 ht (by decide)
    have h := Log.zero.put (cs := pieces (frameN 1 tale)) (by rw [pieces_len]; simp only [List.length_nil]; omega) hp
    have e : agL tale ws 0 = padF 1 tale := by simp [agL, wordsP]
    rw [e, padF_len]
    exact ⟨h, by omega⟩
  | k + 1, hk, hw => by
    obtain ⟨h1, h2⟩ := agLog ht htb hwb hn k (by omega) fun i b hi => hw i b (by omega)
    obtain ⟨b, hb⟩ : ∃ b, ws[k]? = some b := ⟨_, List.getElem?_eq_getElem (by omega)⟩
    have hbl := hw k b (by omega) hb
    have hc := cells_bd 2 b 150 hbl (by decide)
    have hbm : b ∈ ws := List.mem_of_getElem? hb
    have hp := pieces_ok (frame_byt (k := 2) (by decide) (hwb b hbm))
    rw [agL_succ _ _ _ _ hb, List.length_append, padF_len]
    have hg : ws.getD k [] = b := by rw [List.getD_eq_getElem?_getD, hb]; rfl
    have h := h1.put (cs := pieces (frameN 2 b)) (by rw [pieces_len]; omega) hp
    refine ⟨?_, by omega⟩
    unfold agE
    rw [hg]
    exact h
section
variable {G : VProg}
theorem reelAgain (hG : G 6 = some (.code v6)) (R : Reel G) (hA : lim G 33 [] [] = some (.bool true, []))
    (tale : List Nat) (htb : ∀ x ∈ tale, x < 256) (ws : List (List Nat)) (hwb : ∀ w ∈ ws, ∀ x ∈ w, x < 256) : lim G 6 [.isl 0 1 (byN tale), .isl 0 1 (ws.map iB)] [] = some (.bool true, []) := by
  have lr : LR (-1) := by unfold LR; omega
  have s1 : spO false (-1) = false := by decide
  have s2 : spL false (-1) = -1 := by decide
  cases b1 : decide (300 < (tale.length : Int))
  case true => exact lim_fun hG (h := runV b1 trivial trivial)
  cases b2 : decide (12 < (ws.length : Int))
  case true => exact lim_fun hG (h := runV (And.intro b1 b2) trivial trivial)
  have k1 : tale.length ≤ 300 := by simp at b1; omega
  have k2 : ws.length ≤ 12 := by simp at b2; omega
  have hLog := agLog k1 htb hwb k2
  have t0 : lim G 13 [.int .i64 160] [] = some (q0, [plateO (List.replicate 160 zero64) false [] false (-1)]) := R.new 160
  have pw : PW (List.replicate 160 zero64) [] := Log.zero.pw
  have t1 := R.opn _ false [] false (-1) pw
  rw [openR_zero, show decide (0 < (List.replicate 160 zero64).length / 2) = true by rw [List.length_replicate]; decide] at t1
  simp only [Bool.or_true, openRV] at t1
  have e0 : agL tale ws 0 = padF 1 tale := by simp [agL, wordsP]
  have hc0 := cells_bd 1 tale 300 k1 (by decide)
  have t2 : lim G 35 [q0, .isl 0 1 (byN tale)] [reelO 1 1 0 0 false, plateO (List.replicate 160 zero64) true [] false (-1)] = some (.int .i64 0, [reelO 1 0 1 (agL tale ws 0).length true, plateO (agE tale ws 0) false [] false (-1)]) := by
    refine (R.beg 1 0 0 false tale _ true [] false (-1) (by decide) htb (by omega) pw lr (by decide)).trans ?_
    unfold beginR
    simp only [topN_zero, putN_free, List.length_replicate, s1, s2, Nat.sub_self, Nat.zero_add, List.nil_append]
    rw [if_neg (by omega), if_neg (by simp), if_neg (by simp), e0, padF_len]
    rfl
  refine againWalk hG hA tale ws (agE tale ws) (fun k => (agL tale ws k).length) (fun k => putL 80 0 1 (agL tale ws k).length (pieces (frameN 2 (ws.getD k [])))) _ ((putL 80 1 2 0 (pieces (frameN 1 newB))).foldl wr (agE tale ws ws.length)) b1 b2 t0 t1 t2 (fun k b hb hw => ?_) (fun hw => ?_)
  · have hk : k < ws.length := by
      obtain ⟨h, _⟩ := List.getElem?_eq_some_iff.1 hb
      exact h
    obtain ⟨h1, h2⟩ := hLog k (by omega) fun i b hi => hw i b (by omega)
    have hbl := hw k b (Nat.le_refl _) hb
    have hc := cells_bd 2 b 150 hbl (by decide)
    have hbm : b ∈ ws := List.mem_of_getElem? hb
    have hg : ws.getD k [] = b := by rw [List.getD_eq_getElem?_getD, hb]; rfl
    have hl : (agL tale ws (k + 1)).length = (agL tale ws k).length + cellsN (frameN 2 b).length := by rw [agL_succ _ _ _ _ hb, List.length_append, padF_len]
    simp only [hg, hl]
    have hok := putL_ok (h := 80) (s := 0) (r := 1) (n := 160) (pieces (frameN 2 b)) (agL tale ws k).length (pieces_48 _) (by rw [pieces_len]; omega)
    constructor
    · refine (R.add 0 1 _ true b _ false [] false (-1) (by decide) (fun _ => by decide) (by omega) (hwb b hbm) (by omega) (by rw [h1.n]; decide) lr (by decide)).trans ?_
      unfold addR
      simp only [putN_free, h1.n, List.nil_append]
      rw [if_neg (by simp), if_neg (by omega), if_neg (by simp)]
    · have f := R.flush 0 1 ((agL tale ws k).length + cellsN (frameN 2 b).length) true (agE tale ws k) false (putL 80 0 1 (agL tale ws k).length (pieces (frameN 2 b))) false (-1) (fun c hc => (h1.pw.c c hc).1) (fun w hw => by rw [h1.n]; exact hok w hw) (by rw [putL_len, pieces_len]; omega) lr
      simp only [s1, s2, if_true, Bool.false_eq_true, if_false] at f
      have e : agE tale ws (k + 1) = (putL 80 0 1 (agL tale ws k).length (pieces (frameN 2 b))).foldl wr (agE tale ws k) := by
        rw [← hg]; rfl
      rw [e]
      exact f
  · obtain ⟨h1, h2⟩ := hLog ws.length (Nat.le_refl _) fun i b _ => hw i b
    have eL : agL tale ws ws.length = padF 1 tale ++ wordsP ws := by unfold agL; rw [List.take_length]
    rw [eL] at h1
    have hwl : ∀ w ∈ ws, w.length ≤ 65536 := fun w hm => by
      obtain ⟨i, hi⟩ := List.getElem?_of_mem hm
      have := hw i w hi
      omega
    have ho := h1.openR (by omega) hwl
    have hz : decide (0 < (agE tale ws ws.length).length / 2) = true := by rw [h1.n]; decide
    obtain ⟨n1, n2, n3⟩ := h1.next (by omega) hwl newB (by decide) (by decide)
    have hne : padF 1 tale ++ wordsP ws ≠ [] := by
      intro e
      have := padF_pos 1 tale (by omega)
      have e' := congrArg List.length e
      rw [List.length_append] at e'
      simp only [List.length_nil] at e'
      omega
    have htop := h1.topN hne
    rw [h1.n] at htop
    refine ⟨fun fz => ?_, fun fz => ?_, ?_⟩
    · have t := R.opn _ fz [] false (-1) h1.pw
      rw [ho, hz] at t
      simp only [Bool.or_true, openRV] at t
      exact t
    · refine (R.beg 0 1 _ true newB _ fz [] false (-1) (by decide) (by decide) (by decide) h1.pw lr (by decide)).trans ?_
      have hc : cellsN (frameN 1 newB).length = 1 := by decide +kernel
      unfold beginR
      simp only [htop, putN_free, h1.n, s1, s2, hc, List.nil_append]
      rw [if_neg (by omega), if_neg (by simp), if_neg (by simp)]
    · have t := R.opn _ false [] false (-1) n2
      rw [n1, n3] at t
      simp only [openRV] at t
      exact t
end
end P1
end Go.Vq

namespace Go.Proofs.Ytbbpandancpibaa.reelAgain
open Go.ChangeShapes Go.WideShapes Go.ChangeAt Go.RowKit
theorem own : ownKnob Try.prog.godebug = none := by kernel_rfl
noncomputable def G1 : Vq.VProg := Vq.vprog Try.prog ap ib keeps prims
theorem g1_ok : Vq.GOk Try.prog G1 := Vq.vprog_ok prims_ok
theorem g1_51 : G1 51 = some (.prim (Vq.clonePrim 1 1)) := rfl
theorem g1_80 : G1 80 = some (.iter (Vq.backwardI true 65)) := rfl
theorem g1_88 : G1 88 = some (.iter (Vq.backwardI false 1)) := rfl
theorem g1_85 : G1 85 = some (.iter (Vq.chunkI 1)) := rfl
theorem clone (es : List Vq.V) (h : es.length ≤ 140737488355328) : Vq.lim G1 51 [.isl 0 1 es] [] = some (.xsl 0 1 es, []) := Vq.lim_prim g1_51 (by simp [Vq.clonePrim, h])
theorem marks : Vq.P1.Marks G1 := Vq.P1.marks_ok G1 clone (by kernel_rfl) (by kernel_rfl) (by kernel_rfl) (by kernel_rfl) (by kernel_rfl) (by kernel_rfl) g1_80 (by kernel_rfl) (by kernel_rfl) g1_88 (by kernel_rfl) (by kernel_rfl) (by kernel_rfl) (by kernel_rfl) (by kernel_rfl) (by kernel_rfl) (by kernel_rfl) (by kernel_rfl)
theorem halves (n : Nat) (hn : n < 2 ^ 32) : Vq.lim G1 84 [.int .u32 n, .int .i64 8] [] = some (.int .u32 (Vq.P1.halN 8 n : Nat), []) := Vq.P1.halves G1 (by kernel_rfl) n hn
theorem of1 (l : List Nat) (hl : l.length < 2 ^ 40) (hb : ∀ x ∈ l, x < 256) : Vq.lim G1 74 [.isl 0 1 [.isl 0 1 (Vq.byN l)]] [] = some (.int .u32 (Vq.P1.crc l : Nat), []) := Vq.P1.of1 G1 (by kernel_rfl) halves l hl hb
theorem number (l : List Nat) (hl : l.length < 2 ^ 40) (hb : ∀ x ∈ l, x < 256) : Vq.lim G1 82 [.isl 0 1 (Vq.byN l), .int .u64 65536] [] = some (.tup [.int .u64 (Vq.P1.dec 65536 0 0 l).1, .int .i64 (Vq.P1.dec 65536 0 0 l).2], []) := Vq.P1.number G1 (by kernel_rfl) l 65536 hl hb (by decide)
theorem opens (b : List Nat) (hb : ∀ x ∈ b, x < 256) (hl : b.length < 2 ^ 31) : Vq.lim G1 71 [.isl 0 1 (Vq.byN b)] [] = some (Vq.P1.openV (Vq.P1.openN b), []) := Vq.P1.Open G1 (by kernel_rfl) number of1 clone b hb hl
theorem frame (k : Nat) (hk : k < 256) (body : List Nat) (hb : ∀ x ∈ body, x < 256) (hl : body.length ≤ 65536) : Vq.lim G1 62 [.agg [.int .u8 k, .isl 0 1 (Vq.byN body)]] [] = some (.tup [.fsl 0 1 (Vq.byN (Vq.P1.frameN k body)), .int .i64 0], []) :=
  Vq.P1.Frame G1 (by kernel_rfl) (fun b ns hn hl hb => Vq.P1.Number G1 (by kernel_rfl) clone b ns hn hl hb) of1 k hk body hb hl
theorem cells (n : Nat) (h : n < 2 ^ 40) : Vq.lim G1 63 [.int .i64 n] [] = some (.int .i64 (Vq.P1.cellsN n : Nat), []) := Vq.P1.rcells G1 (by kernel_rfl) n h
theorem concat (ls : List (List Nat)) (h1 : ls.length < 2 ^ 40) (h2 : ls.flatten.length < 2 ^ 40) : Vq.lim G1 72 [.isl 0 1 (ls.map Vq.P1.iB)] [] = some (.xsl 0 1 (Vq.byN ls.flatten), []) := Vq.P1.concat G1 (by kernel_rfl) (fun n hn => Vq.P1.grow0 G1 (by kernel_rfl) n hn) ls h1 h2
theorem flush : Vq.P1.HFlush G1 := fun es fz ls off left he hw hb hl => Vq.P1.flush G1 (by kernel_rfl) (Vq.P1.spend G1 (by kernel_rfl)) es fz ls off left he hw hb hl
theorem hput : Vq.P1.HPut G1 := fun s r a b rs rr ra rb es fz ls off left hs hr ha hn hb hl hls => Vq.P1.rputR G1 (by kernel_rfl) g1_85 (fun es n hn => Vq.P1.chunkC G1 (by kernel_rfl) es n hn) marks s r a b rs rr ra rb es fz ls off left hs hr ha hn hb hl hls
theorem leftC : ∀ (s r a : Nat) (b : Bool) es fz ls off left (_ : es.length < 2 ^ 40) (_ : a < 2 ^ 40), Vq.lim G1 39 [Vq.P1.q0] [Vq.P1.reelO 1 s r a b, Vq.P1.plateO es fz ls off left] = some (.int .i64 (Vq.P1.leftN es.length a b), [Vq.P1.reelO 1 s r a b, Vq.P1.plateO es fz ls off left]) :=
  fun s r a b es fz ls off left hn ha => Vq.P1.rleft G1 (by kernel_rfl) marks.room s r a b es fz ls off left hn ha
theorem reel : Vq.P1.Reel G1 where
  new := fun n => Vq.P1.pnew G1 (by kernel_rfl) n
  opn := fun es fz ls off left h => Vq.P1.ropen G1 (by kernel_rfl) (fun s hs es fz ls off left h => Vq.P1.rside G1 (by kernel_rfl) marks concat opens cells s hs es fz ls off left h) es fz ls off left h
  beg := fun s r a rd body es fz ls off left hs hb hl h hlr hls => Vq.P1.rbegin G1 (by kernel_rfl) marks frame hput flush cells s r a rd body es fz ls off left hs hb hl h hlr hls
  add := fun s r a rd body es fz ls off left hs hr ha hb hl hn hlr hls => Vq.P1.radd G1 (by kernel_rfl) frame hput leftC cells s r a rd body es fz ls off left hs hr ha hb hl hn hlr hls
  flush := fun s r a b es fz ls off left he hw hl hlr => Vq.P1.rflushR G1 (by kernel_rfl) flush s r a b es fz ls off left he hw hl hlr
  ready := fun s r a b es fz ls off left => Vq.P1.rready G1 (by kernel_rfl) s r a b es fz ls off left
  left := leftC
theorem alive : Vq.lim G1 33 [] [] = some (.bool true, []) := Vq.P1.reelAlive (by kernel_rfl) reel

theorem word_of {x : Vq.V} (h : Vq.HasT Try.prog 31 x) : ∃ b : List Nat, x = Vq.P1.iB b ∧ ∀ y ∈ b, y < 256 := by
  obtain ⟨ns, rfl, hns⟩ := h.ints Try.underlying31 Try.underlying5 (by kernel_rfl)
  obtain ⟨b, e1, hb⟩ := Vq.bytes_nat ns hns
  exact ⟨b, by rw [e1], hb⟩
theorem runs (us : List Vq.V) (h : Vq.HasTs Try.prog [31, 26] us) : Vq.lim G1 6 us [] = some (.bool true, []) := by
  obtain ⟨v0, us, rfl, h0, h⟩ := h.inv
  obtain ⟨v1, us, rfl, h1, h⟩ := h.inv
  obtain rfl := h.inv_nil
  obtain ⟨b, rfl, hb⟩ := word_of h0
  obtain ⟨es, rfl, _, hes⟩ := h1.slice Try.underlying26
  rw [show Try.prog.cellsOf 31 = 1 by kernel_rfl]
  obtain ⟨ws, rfl, hws⟩ := Vq.mapx (f := Vq.P1.iB) fun x hx => word_of (hes x hx)
  exact Vq.P1.reelAgain (by kernel_rfl) reel alive b hb ws hws

/-! ### the row's step -/
theorem types : Try.f6.params.toList = [31, 26] := by kernel_rfl
theorem argsOk : ((Try.f6.params.toList).all fun t => Vq.argT Try.prog 8 true t) = true := by kernel_rfl
set_option maxRecDepth 100000 in
theorem lifted (os : Os) (started : os.Started) (H : Type) (enc : TypeId × Value → H) :
    ReturnsInHanded {} Try.checked os 6 .any (Rows.reelAgainSpec.pre6 enc Try.prog Try.f6 Rows.reelAgainRow.domain false) (Rows.reelAgainSpec.post enc Try.prog Try.f6 false true false false) := by
  refine returnsInHanded_of_change (C := Try.checked) own started (by kernel_rfl) Try.func6
    (ChangeSpec.witness6 (enc := enc) (C := Try.checked) false ⟨#[], #[.slice none 0 0, .slice none 0 0], []⟩ 8 (by kernel_rfl) (by kernel_rfl) (by kernel_rfl) (by kernel_rfl)) ?_
  intro W base args ds gs before hval0 hW hcnd _
  have hval : ∀ (j : Nat) t v, Try.f6.params[j]? = some t → args[j]? = some v → Value.okWide Try.prog W .any base t v := hval0
  have hW' := hW
  obtain ⟨p, q, hA0, hV, rfl, hfz, hnd⟩ := hW
  have hA : DataW.TrodAll enc Try.prog W 0 (fun _ => true) true Try.f6.params.toList args.toList ds p := hA0
  obtain ⟨us, ha, ht⟩ := Vq.args_rel (fun t ht => ⟨8, List.all_eq_true.1 argsOk t ht⟩) hA (fun j t v h1 h2 => hval j t v (by simpa using h1) (by simpa using h2))
  rw [types] at ht
  obtain ⟨_, hrun⟩ := Vq.lim_ev (runs us ht)
  refine (Vq.true_walk_args (xs := args.toList) g1_ok (hrun _ (Nat.le_refl _)) W ha).mono fun e W' ⟨he, hg⟩ => ?_
  subst he
  exact ⟨_, rfl, Vq.post_args (tb := 4) 8 hW' hg argsOk rfl (fun l hl => by
    have hl' : l.length = [31, 26].length := by rw [← types]; simpa using hl
    clear hl
    match l, hl' with
    | [d0, d1], _ => rfl) (by kernel_rfl) Try.underlying4⟩

theorem over : Rows.reelAgainRow.holds Try.pinned (OpenSpec.ofChange Rows.reelAgainSpec) :=
  OpenClaim.holds_of_wide 6 Try.f6 rfl rfl rfl rfl rfl rfl rfl ⟨rfl, rfl, rfl, rfl, rfl⟩ rfl rfl rfl rfl rfl (by kernel_rfl) Try.func6 (by kernel_rfl)
    (of_decide_eq_true (by kernel_rfl)) (by unfold Func.isWrapper; first | (rw [if_pos (by decide +kernel)]; kernel_rfl) | (rw [if_neg (by decide +kernel)]; exact ⟨rfl, rfl⟩))
    (fun os started H enc _ => lifted os started H enc)

/-- ████ THE STATEMENT ████ -/
theorem proved : Rows.ReelAgainSaid :=
  over
#print axioms proved
end Go.Proofs.Ytbbpandancpibaa.reelAgain
