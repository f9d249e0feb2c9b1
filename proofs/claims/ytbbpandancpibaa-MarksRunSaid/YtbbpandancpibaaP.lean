/- The V-level machine, run on values that are not known (no law of Go is stated here). -/
import Derived.Test.YtbbpandancpibaaO
import Derived.KernelRfl
set_option linter.unusedVariables false
set_option linter.unusedSimpArgs false
set_option linter.unusedSectionVars false
namespace Go.Vq
namespace P1
open Go
set_option maxRecDepth 1000000
set_option maxHeartbeats 8000000
structure ActM where
  k : Int
  side : Int
  at' : Int
  torn : Int
  r : Nat
  inner : List Nat
abbrev actV (a : ActM) : V := .agg [.int .i64 a.k, .int .i64 a.side, .int .i64 a.at', .int .i64 a.torn, .int .u64 (a.r : Int), .isl 0 1 (byN a.inner)]
abbrev aS (acts : List ActM) : V := .isl 0 6 (acts.map actV)
/-- What the plate, the marks and the document's have in common. -/
structure Duo (G : VProg) : Prop where
  m : Marks G
  same : ∀ l : List (List Nat), l.length < 2 ^ 40 → lim G 32 [.isl 0 1 (l.map iB), .isl 0 1 (l.map sB)] [] = some (.bool true, [])
  rread : ∀ (side : Int) (es ls off left lj) (_ : PW es ls), lim G 31 [q0, .int .i64 side] [refP es ls off left lj] = some (rreadV (readN es ls side), [refP es ls off left lj])
  rtop : ∀ (es ls off left lj) (_ : PW es ls), lim G 30 [q0] [refP es ls off left lj] = some (.int .u64 (topN es ls es.length : Nat), [refP es ls off left lj])
  rroom : ∀ su se pl wh off counts left, se.length < 2 ^ 40 → lim G 29 [refI su se pl wh off counts left] [] = some (.int .i64 ((se.length / 2 : Nat) : Int), [])
theorem rdN_le (es : List (List Nat)) (ls : List (Nat × List Nat)) (i r : Nat) : ∀ k a, (rdN es ls i r a k).length ≤ k
  | 0, _ => Nat.le_refl _
  | k + 1, a => by
    simp only [rdN]
    split
    · have := rdN_le es ls i r k (a + 1)
      simp only [List.length_cons]; omega
    · simp
theorem readN_le (es : List (List Nat)) (ls : List (Nat × List Nat)) (side : Int) : (readN es ls side).2.length ≤ es.length := by
  unfold readN
  split
  · simp
  · simp only
    split
    · simp
    · exact Nat.le_trans (rdN_le es ls (side.toNat * (es.length / 2)) (markN (getC es ls ((side.toNat * (es.length / 2) : Nat) : Int)) / 65536) (es.length / 2) 0) (Nat.div_le_self _ _)
def SMr (acts : List ActM) (i : Nat) (es : List (List Nat)) (fz : Bool) (ls : List (Nat × List Nat)) (off : Bool) (left lj : Int) : St :=
  ⟨(.gone 0 :: aS acts :: .gone 0 :: .gone 0 :: .gone 0 :: q0 :: .ptr (.obj 4 0) :: .gone 0 :: .gone 0 :: .gone 0 :: .gone 0 :: .gone 0 :: .gone 0 :: .gone 0 :: .gone 0 :: .gone 0 :: .gone 0 :: .gone 0 :: .gone 0 :: .gone 0 :: .gone 0 :: .gone 0 :: .gone 0 :: .gone 0 :: .gone 0 :: .gone 0 :: .gone 0 :: .gone 0 :: .gone 0 :: aS acts :: .int .i64 acts.length :: .int .i64 i :: .gone 0 :: .gone 0 :: .gone 0 :: .gone 0 :: .gone 0 :: .gone 0 :: .gone 0 :: .gone 0 :: .gone 0 :: .gone 0 :: .gone 0 :: .gone 0 :: .gone 0 :: .gone 0 :: .gone 0 :: .gone 0 :: .gone 0 :: .gone 0 :: .gone 0 :: .gone 0 :: .gone 0 :: .gone 0 :: .gone 0 :: .gone 0 :: .gone 0 :: .gone 0 :: .gone 0 :: .gone 0 :: .gone 0 :: .gone 0 :: .gone 0 :: .gone 0 :: .gone 0 :: .gone 0 :: .gone 0 :: .gone 0 :: .gone 0 :: .gone 0 :: .gone 0 :: .gone 0 :: .gone 0 :: .gone 0 :: .gone 0 :: .gone 0 :: .gone 0 :: .gone 0 :: .gone 0 :: .gone 0 :: .gone 0 :: .gone 0 :: .gone 0 :: .gone 0 :: .gone 0 :: .gone 0 :: .gone 0 :: .gone 0 :: .gone 0 :: .gone 0 :: .gone 0 :: .gone 0 :: .gone 0 :: .gone 0 :: .gone 0 :: .gone 0 :: .gone 0 :: .gone 0 :: .gone 0 :: .gone 0 :: .gone 0 :: .gone 0 :: .gone 0 :: .gone 0 :: .gone 0 :: .gone 0 :: .gone 0 :: .gone 0 :: .gone 0 :: .gone 0 :: .gone 0 :: .gone 0 :: .gone 0 :: .gone 0 :: .gone 0 :: .gone 0 :: .gone 0 :: .gone 0 :: .gone 0 :: .gone 0 :: .gone 0 :: .gone 0 :: .gone 0 :: .gone 0 :: .gone 0 :: .gone 0 :: .gone 0 :: .gone 0 :: .gone 0 :: .gone 0 :: .gone 0 :: .gone 0 :: .gone 0 :: .gone 0 :: .gone 0 :: .gone 0 :: .gone 0 :: .gone 0 :: .gone 0 :: .gone 0 :: .gone 0 :: .gone 0 :: .gone 0 :: .gone 0 :: .gone 0 :: .gone 0 :: .gone 0 :: .gone 0 :: .gone 0 :: .gone 0 :: .gone 0 :: .gone 0 :: .gone 0 :: .gone 0 :: .gone 0 :: .gone 0 :: []), [some (plateO es fz ls off left), none, none, none, some (refP es ls off left lj), none, none, none, none]⟩
def SIn (acts : List ActM) (i : Nat) (es : List (List Nat)) (fz : Bool) (ls : List (Nat × List Nat)) (off : Bool) (left lj : Int) (k : Nat) : St :=
  ⟨(.gone 0 :: aS acts :: .gone 0 :: .gone 0 :: .gone 0 :: q0 :: .ptr (.obj 4 0) :: .gone 0 :: .gone 0 :: .gone 0 :: .gone 0 :: .int .i64 ((k : Int) - 1) :: .gone 0 :: .gone 0 :: .gone 0 :: .gone 0 :: .gone 0 :: .gone 0 :: .gone 0 :: .gone 0 :: .gone 0 :: .gone 0 :: .gone 0 :: .gone 0 :: .gone 0 :: .gone 0 :: .gone 0 :: .gone 0 :: .gone 0 :: aS acts :: .int .i64 acts.length :: .int .i64 i :: .gone 0 :: .gone 0 :: .gone 0 :: .gone 0 :: .gone 0 :: .gone 0 :: .gone 0 :: .gone 0 :: .gone 0 :: .gone 0 :: .gone 0 :: .gone 0 :: .gone 0 :: .gone 0 :: .gone 0 :: .gone 0 :: .gone 0 :: .gone 0 :: .gone 0 :: .gone 0 :: .gone 0 :: .gone 0 :: .gone 0 :: .gone 0 :: .gone 0 :: .gone 0 :: .gone 0 :: .gone 0 :: .gone 0 :: .gone 0 :: .gone 0 :: .gone 0 :: .gone 0 :: .gone 0 :: .gone 0 :: .gone 0 :: .gone 0 :: .gone 0 :: .gone 0 :: .gone 0 :: .gone 0 :: .gone 0 :: .gone 0 :: .gone 0 :: .gone 0 :: .gone 0 :: .gone 0 :: .gone 0 :: .gone 0 :: .gone 0 :: .gone 0 :: .gone 0 :: .gone 0 :: .gone 0 :: .gone 0 :: .gone 0 :: .gone 0 :: .gone 0 :: .gone 0 :: .gone 0 :: .gone 0 :: .gone 0 :: .gone 0 :: .gone 0 :: .gone 0 :: .gone 0 :: .gone 0 :: .gone 0 :: .gone 0 :: .gone 0 :: .gone 0 :: .gone 0 :: .gone 0 :: .gone 0 :: .gone 0 :: .gone 0 :: .gone 0 :: .gone 0 :: .gone 0 :: .gone 0 :: .gone 0 :: .gone 0 :: .gone 0 :: .gone 0 :: .gone 0 :: .gone 0 :: .gone 0 :: .gone 0 :: .gone 0 :: .gone 0 :: .gone 0 :: .gone 0 :: .gone 0 :: .gone 0 :: .gone 0 :: .gone 0 :: .gone 0 :: .gone 0 :: .gone 0 :: .gone 0 :: .gone 0 :: .gone 0 :: .gone 0 :: .gone 0 :: .gone 0 :: .gone 0 :: .gone 0 :: .gone 0 :: .gone 0 :: .gone 0 :: .gone 0 :: .gone 0 :: .gone 0 :: .gone 0 :: .gone 0 :: .gone 0 :: .gone 0 :: .gone 0 :: .gone 0 :: .gone 0 :: .gone 0 :: .gone 0 :: .gone 0 :: .gone 0 :: []), [some (plateO es fz ls off left), none, none, none, some (refP es ls off left lj), none, none, none, none]⟩
def SW (acts : List ActM) (i : Nat) (e : Int) (es : List (List Nat)) (fz : Bool) (ls : List (Nat × List Nat)) (off : Bool) (left lj : Int) : St :=
  ⟨(.gone 0 :: aS acts :: .gone 0 :: .gone 0 :: .gone 0 :: q0 :: .ptr (.obj 4 0) :: .gone 0 :: .gone 0 :: .int .i64 e :: .int .i64 e :: .gone 0 :: .gone 0 :: .gone 0 :: .gone 0 :: .gone 0 :: .gone 0 :: .gone 0 :: .gone 0 :: .gone 0 :: .gone 0 :: .gone 0 :: .gone 0 :: .gone 0 :: .gone 0 :: .gone 0 :: .gone 0 :: .gone 0 :: .gone 0 :: aS acts :: .int .i64 acts.length :: .int .i64 i :: .gone 0 :: .gone 0 :: .gone 0 :: .gone 0 :: .gone 0 :: .gone 0 :: .gone 0 :: .gone 0 :: .gone 0 :: .gone 0 :: .gone 0 :: .gone 0 :: .gone 0 :: .gone 0 :: .gone 0 :: .gone 0 :: .gone 0 :: .gone 0 :: .gone 0 :: .gone 0 :: .gone 0 :: .gone 0 :: .gone 0 :: .gone 0 :: .gone 0 :: .gone 0 :: .gone 0 :: .gone 0 :: .gone 0 :: .gone 0 :: .gone 0 :: .gone 0 :: .gone 0 :: .gone 0 :: .gone 0 :: .gone 0 :: .gone 0 :: .gone 0 :: .gone 0 :: .gone 0 :: .gone 0 :: .gone 0 :: .gone 0 :: .gone 0 :: .gone 0 :: .gone 0 :: .gone 0 :: .gone 0 :: .gone 0 :: .gone 0 :: .gone 0 :: .gone 0 :: .gone 0 :: .gone 0 :: .gone 0 :: .gone 0 :: .gone 0 :: .gone 0 :: .gone 0 :: .gone 0 :: .gone 0 :: .gone 0 :: .gone 0 :: .gone 0 :: .gone 0 :: .gone 0 :: .gone 0 :: .gone 0 :: .gone 0 :: .gone 0 :: .gone 0 :: .gone 0 :: .gone 0 :: .gone 0 :: .gone 0 :: .gone 0 :: .gone 0 :: .gone 0 :: .gone 0 :: .gone 0 :: .gone 0 :: .gone 0 :: .gone 0 :: .gone 0 :: .gone 0 :: .gone 0 :: .gone 0 :: .gone 0 :: .gone 0 :: .gone 0 :: .gone 0 :: .gone 0 :: .gone 0 :: .gone 0 :: .gone 0 :: .gone 0 :: .gone 0 :: .gone 0 :: .gone 0 :: .gone 0 :: .gone 0 :: .gone 0 :: .gone 0 :: .gone 0 :: .gone 0 :: .gone 0 :: .gone 0 :: .gone 0 :: .gone 0 :: .gone 0 :: .gone 0 :: .gone 0 :: .gone 0 :: .gone 0 :: .gone 0 :: .gone 0 :: .gone 0 :: .gone 0 :: .gone 0 :: .gone 0 :: .gone 0 :: .gone 0 :: .gone 0 :: .gone 0 :: []), [some (plateO es fz ls off left), none, none, none, some (refP es ls off left lj), none, none, none, none]⟩
def bodyMi : VCode := (.seq (.seq (.region [⟨some 130, .move (.tmp 11), none, 0⟩, ⟨some 131, .bin (.leq) (.tmp 130) (.val (.int .i64 2)), none, 1⟩] false) (.cond (.tmp 131) (.skip) (.exit 3))) (.seq (.block 4 none (.seq (.region [⟨some 135, .move (.tmp 5), none, 0⟩, ⟨some 136, .move (.tmp 11), none, 0⟩, ⟨some 137, .call false 14 9 [(.tmp 135), (.tmp 136)], none, 3⟩, ⟨some 134, .move (.tmp 137), none, 7⟩, ⟨some 138, .extract (.tmp 134) 0, none, 15⟩, ⟨some 139, .extract (.tmp 134) 1, none, 15⟩, ⟨some 12, .assign (.tmp 138), none, 31⟩, ⟨some 13, .assign (.tmp 139), none, 127⟩] false) (.seq (.region [⟨some 141, .move (.tmp 6), none, 0⟩, ⟨some 142, .move (.tmp 11), none, 0⟩, ⟨some 143, .call false 31 9 [(.tmp 141), (.tmp 142)], none, 3⟩, ⟨some 140, .move (.tmp 143), none, 7⟩, ⟨some 144, .extract (.tmp 140) 0, none, 15⟩, ⟨some 145, .extract (.tmp 140) 1, none, 15⟩, ⟨some 14, .assign (.tmp 144), none, 31⟩, ⟨some 15, .assign (.tmp 145), none, 127⟩] false) (.seq (.region [⟨some 146, .move (.tmp 12), none, 0⟩, ⟨some 147, .move (.tmp 14), none, 0⟩, ⟨some 148, .eq true (.num) (.tmp 146) (.tmp 147), none, 3⟩, ⟨some 149, .move (.tmp 148), none, 7⟩, ⟨some 150, .move (.tmp 13), some (149, false), 15⟩, ⟨some 151, .move (.tmp 15), some (149, false), 15⟩, ⟨some 152, .call true 32 9 [(.tmp 150), (.tmp 151)], some (149, false), 63⟩, ⟨some 153, .un (.not) (.tmp 152), some (149, false), 127⟩, ⟨some 154, .pick (.tmp 149) (.val (.bool true)) (.tmp 153), none, 255⟩] false) (.cond (.tmp 154) (.seq (.region [⟨some 4, .assign (.val (.bool false)), none, 0⟩] false) (.ret)) (.skip)))))) (.region [⟨some 132, .move (.tmp 11), none, 0⟩, ⟨some 133, .bin (.add) (.tmp 132) (.val (.int .i64 1)), none, 1⟩, ⟨some 11, .assign (.tmp 133), none, 3⟩] false)))
def bodyMr : VCode := (.seq (.region [⟨some 32, .bin (.lss) (.tmp 31) (.tmp 30), none, 0⟩] false) (.seq (.cond (.tmp 32) (.skip) (.exit 0)) (.seq (.block 1 (some [1, 5, 6, 29, 30, 31]) (.seq (.region [⟨some 33, .indexAddr none 6 (.tmp 29) (.tmp 31), none, 0⟩, ⟨some 34, .load true 6 (.tmp 33), none, 1⟩, ⟨some 8, .alloc 8 [(.int .i64 0), (.int .i64 0), (.int .i64 0), (.int .i64 0), (.int .u64 0), (.xsl 0 1 [])], none, 0⟩, ⟨none, .store 6 (.tmp 8) (.tmp 34), none, 7⟩] false) (.seq (.seq (.region [⟨some 35, .fieldAddr 5 (.tmp 8), none, 0⟩, ⟨some 36, .load false 1 (.tmp 35), none, 1⟩, ⟨some 37, .len (.slc 1) (.tmp 36), none, 3⟩, ⟨some 38, .bin (.gtr) (.tmp 37) (.val (.int .i64 100)), none, 7⟩] false) (.cond (.tmp 38) (.seq (.region [⟨some 4, .assign (.val (.bool true)), none, 0⟩] false) (.ret)) (.skip))) (.seq (.region [⟨some 9, .assign (.val (.int .i64 0)), none, 0⟩, ⟨some 10, .assign (.val (.int .i64 0)), none, 1⟩] false) (.seq (.seq (.region [⟨some 39, .fieldAddr 0 (.tmp 8), none, 0⟩, ⟨some 40, .load false 1 (.tmp 39), none, 1⟩] false) (.block 2 (some [1, 5, 6, 9, 10, 29, 30, 31]) (.seq (.region [⟨some 42, .eq false (.num) (.tmp 40) (.val (.int .i64 0)), none, 0⟩, ⟨some 41, .assign (.tmp 42), none, 1⟩] false) (.cond (.tmp 41) (.seq (.region [⟨some 43, .move (.tmp 5), none, 0⟩, ⟨some 44, .fieldAddr 1 (.tmp 8), none, 0⟩, ⟨some 45, .load false 1 (.tmp 44), none, 2⟩, ⟨some 46, .fieldAddr 4 (.tmp 8), none, 0⟩, ⟨some 47, .load false 1 (.tmp 46), none, 8⟩, ⟨some 48, .fieldAddr 2 (.tmp 8), none, 0⟩, ⟨some 49, .load false 1 (.tmp 48), none, 32⟩, ⟨some 50, .fieldAddr 5 (.tmp 8), none, 0⟩, ⟨some 51, .load false 1 (.tmp 50), none, 128⟩, ⟨some 52, .call false 15 9 [(.tmp 43), (.tmp 45), (.tmp 47), (.tmp 49), (.tmp 51)], none, 511⟩, ⟨some 9, .assign (.tmp 52), none, 1023⟩] false) (.region [⟨some 53, .move (.tmp 6), none, 0⟩, ⟨some 54, .fieldAddr 1 (.tmp 8), none, 0⟩, ⟨some 55, .load false 1 (.tmp 54), none, 2⟩, ⟨some 56, .fieldAddr 4 (.tmp 8), none, 0⟩, ⟨some 57, .load false 1 (.tmp 56), none, 8⟩, ⟨some 58, .fieldAddr 2 (.tmp 8), none, 0⟩, ⟨some 59, .load false 1 (.tmp 58), none, 32⟩, ⟨some 60, .fieldAddr 5 (.tmp 8), none, 0⟩, ⟨some 61, .load false 1 (.tmp 60), none, 128⟩, ⟨some 62, .call false 18 9 [(.tmp 53), (.tmp 55), (.tmp 57), (.tmp 59), (.tmp 61)], none, 511⟩, ⟨some 10, .assign (.tmp 62), none, 1023⟩] false)) (.seq (.region [⟨some 64, .eq false (.num) (.tmp 40) (.val (.int .i64 1)), none, 0⟩, ⟨some 63, .assign (.tmp 64), none, 1⟩] false) (.cond (.tmp 63) (.seq (.region [⟨some 65, .move (.tmp 5), none, 0⟩, ⟨some 66, .call false 19 9 [(.tmp 65)], none, 1⟩, ⟨some 9, .assign (.tmp 66), none, 3⟩] false) (.region [⟨some 67, .move (.tmp 6), none, 0⟩, ⟨some 68, .call false 20 9 [(.tmp 67)], none, 1⟩, ⟨some 10, .assign (.tmp 68), none, 3⟩] false)) (.seq (.region [⟨some 70, .eq false (.num) (.tmp 40) (.val (.int .i64 2)), none, 0⟩, ⟨some 69, .assign (.tmp 70), none, 1⟩] false) (.cond (.tmp 69) (.seq (.region [⟨some 71, .move (.tmp 5), none, 0⟩, ⟨some 72, .fieldAddr 2 (.tmp 8), none, 0⟩, ⟨some 73, .load false 1 (.tmp 72), none, 2⟩, ⟨some 74, .call false 21 9 [(.tmp 71), (.tmp 73)], none, 7⟩] false) (.region [⟨some 75, .move (.tmp 6), none, 0⟩, ⟨some 76, .fieldAddr 2 (.tmp 8), none, 0⟩, ⟨some 77, .load false 1 (.tmp 76), none, 2⟩, ⟨some 78, .call false 22 9 [(.tmp 75), (.tmp 77)], none, 7⟩] false)) (.seq (.region [⟨some 80, .eq false (.num) (.tmp 40) (.val (.int .i64 3)), none, 0⟩, ⟨some 79, .assign (.tmp 80), none, 1⟩] false) (.cond (.tmp 79) (.seq (.region [⟨some 81, .move (.tmp 5), none, 0⟩, ⟨some 82, .fieldAddr 5 (.tmp 8), none, 0⟩, ⟨some 83, .load false 1 (.tmp 82), none, 2⟩, ⟨some 84, .fieldAddr 3 (.tmp 8), none, 0⟩, ⟨some 85, .load false 1 (.tmp 84), none, 8⟩, ⟨some 86, .fieldAddr 2 (.tmp 8), none, 0⟩, ⟨some 87, .load false 1 (.tmp 86), none, 32⟩, ⟨some 88, .call false 23 9 [(.tmp 81), (.tmp 83), (.tmp 85), (.tmp 87)], none, 127⟩] false) (.region [⟨some 89, .move (.tmp 6), none, 0⟩, ⟨some 90, .fieldAddr 5 (.tmp 8), none, 0⟩, ⟨some 91, .load false 1 (.tmp 90), none, 2⟩, ⟨some 92, .fieldAddr 3 (.tmp 8), none, 0⟩, ⟨some 93, .load false 1 (.tmp 92), none, 8⟩, ⟨some 94, .fieldAddr 2 (.tmp 8), none, 0⟩, ⟨some 95, .load false 1 (.tmp 94), none, 32⟩, ⟨some 96, .call false 24 9 [(.tmp 89), (.tmp 91), (.tmp 93), (.tmp 95)], none, 127⟩] false)) (.seq (.region [⟨some 98, .eq false (.num) (.tmp 40) (.val (.int .i64 4)), none, 0⟩, ⟨some 97, .assign (.tmp 98), none, 1⟩] false) (.cond (.tmp 97) (.seq (.region [⟨some 99, .move (.tmp 5), none, 0⟩, ⟨some 100, .fieldAddr 2 (.tmp 8), none, 0⟩, ⟨some 101, .load false 1 (.tmp 100), none, 2⟩, ⟨some 102, .fieldAddr 5 (.tmp 8), none, 0⟩, ⟨some 103, .load false 1 (.tmp 102), none, 8⟩, ⟨some 104, .call true 26 9 [(.tmp 103)], none, 24⟩, ⟨some 105, .call false 25 9 [(.tmp 99), (.tmp 101), (.tmp 104)], none, 63⟩, ⟨some 9, .assign (.tmp 105), none, 127⟩] true) (.region [⟨some 106, .move (.tmp 6), none, 0⟩, ⟨some 107, .fieldAddr 2 (.tmp 8), none, 0⟩, ⟨some 108, .load false 1 (.tmp 107), none, 2⟩, ⟨some 109, .fieldAddr 5 (.tmp 8), none, 0⟩, ⟨some 110, .load false 1 (.tmp 109), none, 8⟩, ⟨some 111, .call true 26 9 [(.tmp 110)], none, 24⟩, ⟨some 112, .call false 27 9 [(.tmp 106), (.tmp 108), (.tmp 111)], none, 63⟩, ⟨some 10, .assign (.tmp 112), none, 127⟩] true)) (.skip))))))))))))) (.seq (.seq (.region [⟨some 113, .move (.tmp 9), none, 0⟩, ⟨some 114, .move (.tmp 10), none, 0⟩, ⟨some 115, .eq true (.num) (.tmp 113) (.tmp 114), none, 3⟩, ⟨some 116, .move (.tmp 115), none, 7⟩, ⟨some 117, .move (.tmp 5), some (116, false), 15⟩, ⟨some 118, .call false 28 9 [(.tmp 117)], some (116, false), 31⟩, ⟨some 119, .move (.tmp 6), some (116, false), 15⟩, ⟨some 120, .call true 29 9 [(.tmp 119)], some (116, false), 127⟩, ⟨some 121, .eq true (.num) (.tmp 118) (.tmp 120), some (116, false), 255⟩, ⟨some 122, .pick (.tmp 116) (.val (.bool true)) (.tmp 121), none, 511⟩, ⟨some 123, .move (.tmp 122), none, 1023⟩, ⟨some 124, .move (.tmp 5), some (123, false), 2047⟩, ⟨some 125, .call false 16 9 [(.tmp 124)], some (123, false), 4095⟩, ⟨some 126, .move (.tmp 6), some (123, false), 2047⟩, ⟨some 127, .call false 30 9 [(.tmp 126)], some (123, false), 16383⟩, ⟨some 128, .eq true (.num) (.tmp 125) (.tmp 127), some (123, false), 32767⟩, ⟨some 129, .pick (.tmp 123) (.val (.bool true)) (.tmp 128), none, 65535⟩] false) (.cond (.tmp 129) (.seq (.region [⟨some 4, .assign (.val (.bool false)), none, 0⟩] false) (.ret)) (.skip))) (.seq (.region [⟨some 11, .assign (.val (.int .i64 (-1))), none, 0⟩] false) (.block 3 (some [1, 5, 6, 29, 30, 31]) (.loop (some [1, 5, 6, 11, 29, 30, 31]) (.seq (.seq (.region [⟨some 130, .move (.tmp 11), none, 0⟩, ⟨some 131, .bin (.leq) (.tmp 130) (.val (.int .i64 2)), none, 1⟩] false) (.cond (.tmp 131) (.skip) (.exit 3))) (.seq (.block 4 none (.seq (.region [⟨some 135, .move (.tmp 5), none, 0⟩, ⟨some 136, .move (.tmp 11), none, 0⟩, ⟨some 137, .call false 14 9 [(.tmp 135), (.tmp 136)], none, 3⟩, ⟨some 134, .move (.tmp 137), none, 7⟩, ⟨some 138, .extract (.tmp 134) 0, none, 15⟩, ⟨some 139, .extract (.tmp 134) 1, none, 15⟩, ⟨some 12, .assign (.tmp 138), none, 31⟩, ⟨some 13, .assign (.tmp 139), none, 127⟩] false) (.seq (.region [⟨some 141, .move (.tmp 6), none, 0⟩, ⟨some 142, .move (.tmp 11), none, 0⟩, ⟨some 143, .call false 31 9 [(.tmp 141), (.tmp 142)], none, 3⟩, ⟨some 140, .move (.tmp 143), none, 7⟩, ⟨some 144, .extract (.tmp 140) 0, none, 15⟩, ⟨some 145, .extract (.tmp 140) 1, none, 15⟩, ⟨some 14, .assign (.tmp 144), none, 31⟩, ⟨some 15, .assign (.tmp 145), none, 127⟩] false) (.seq (.region [⟨some 146, .move (.tmp 12), none, 0⟩, ⟨some 147, .move (.tmp 14), none, 0⟩, ⟨some 148, .eq true (.num) (.tmp 146) (.tmp 147), none, 3⟩, ⟨some 149, .move (.tmp 148), none, 7⟩, ⟨some 150, .move (.tmp 13), some (149, false), 15⟩, ⟨some 151, .move (.tmp 15), some (149, false), 15⟩, ⟨some 152, .call true 32 9 [(.tmp 150), (.tmp 151)], some (149, false), 63⟩, ⟨some 153, .un (.not) (.tmp 152), some (149, false), 127⟩, ⟨some 154, .pick (.tmp 149) (.val (.bool true)) (.tmp 153), none, 255⟩] false) (.cond (.tmp 154) (.seq (.region [⟨some 4, .assign (.val (.bool false)), none, 0⟩] false) (.ret)) (.skip)))))) (.region [⟨some 132, .move (.tmp 11), none, 0⟩, ⟨some 133, .bin (.add) (.tmp 132) (.val (.int .i64 1)), none, 1⟩, ⟨some 11, .assign (.tmp 133), none, 3⟩] false)))))))))))) (.region [⟨some 155, .bin (.add) (.tmp 31) (.val (.int .i64 1)), none, 0⟩, ⟨some 31, .move (.tmp 155), none, 1⟩] false))))
def restMr : VCode := (.seq (.seq (.region [⟨some 113, .move (.tmp 9), none, 0⟩, ⟨some 114, .move (.tmp 10), none, 0⟩, ⟨some 115, .eq true (.num) (.tmp 113) (.tmp 114), none, 3⟩, ⟨some 116, .move (.tmp 115), none, 7⟩, ⟨some 117, .move (.tmp 5), some (116, false), 15⟩, ⟨some 118, .call false 28 9 [(.tmp 117)], some (116, false), 31⟩, ⟨some 119, .move (.tmp 6), some (116, false), 15⟩, ⟨some 120, .call true 29 9 [(.tmp 119)], some (116, false), 127⟩, ⟨some 121, .eq true (.num) (.tmp 118) (.tmp 120), some (116, false), 255⟩, ⟨some 122, .pick (.tmp 116) (.val (.bool true)) (.tmp 121), none, 511⟩, ⟨some 123, .move (.tmp 122), none, 1023⟩, ⟨some 124, .move (.tmp 5), some (123, false), 2047⟩, ⟨some 125, .call false 16 9 [(.tmp 124)], some (123, false), 4095⟩, ⟨some 126, .move (.tmp 6), some (123, false), 2047⟩, ⟨some 127, .call false 30 9 [(.tmp 126)], some (123, false), 16383⟩, ⟨some 128, .eq true (.num) (.tmp 125) (.tmp 127), some (123, false), 32767⟩, ⟨some 129, .pick (.tmp 123) (.val (.bool true)) (.tmp 128), none, 65535⟩] false) (.cond (.tmp 129) (.seq (.region [⟨some 4, .assign (.val (.bool false)), none, 0⟩] false) (.ret)) (.skip))) (.seq (.region [⟨some 11, .assign (.val (.int .i64 (-1))), none, 0⟩] false) (.block 3 (some [1, 5, 6, 29, 30, 31]) (.loop (some [1, 5, 6, 11, 29, 30, 31]) (.seq (.seq (.region [⟨some 130, .move (.tmp 11), none, 0⟩, ⟨some 131, .bin (.leq) (.tmp 130) (.val (.int .i64 2)), none, 1⟩] false) (.cond (.tmp 131) (.skip) (.exit 3))) (.seq (.block 4 none (.seq (.region [⟨some 135, .move (.tmp 5), none, 0⟩, ⟨some 136, .move (.tmp 11), none, 0⟩, ⟨some 137, .call false 14 9 [(.tmp 135), (.tmp 136)], none, 3⟩, ⟨some 134, .move (.tmp 137), none, 7⟩, ⟨some 138, .extract (.tmp 134) 0, none, 15⟩, ⟨some 139, .extract (.tmp 134) 1, none, 15⟩, ⟨some 12, .assign (.tmp 138), none, 31⟩, ⟨some 13, .assign (.tmp 139), none, 127⟩] false) (.seq (.region [⟨some 141, .move (.tmp 6), none, 0⟩, ⟨some 142, .move (.tmp 11), none, 0⟩, ⟨some 143, .call false 31 9 [(.tmp 141), (.tmp 142)], none, 3⟩, ⟨some 140, .move (.tmp 143), none, 7⟩, ⟨some 144, .extract (.tmp 140) 0, none, 15⟩, ⟨some 145, .extract (.tmp 140) 1, none, 15⟩, ⟨some 14, .assign (.tmp 144), none, 31⟩, ⟨some 15, .assign (.tmp 145), none, 127⟩] false) (.seq (.region [⟨some 146, .move (.tmp 12), none, 0⟩, ⟨some 147, .move (.tmp 14), none, 0⟩, ⟨some 148, .eq true (.num) (.tmp 146) (.tmp 147), none, 3⟩, ⟨some 149, .move (.tmp 148), none, 7⟩, ⟨some 150, .move (.tmp 13), some (149, false), 15⟩, ⟨some 151, .move (.tmp 15), some (149, false), 15⟩, ⟨some 152, .call true 32 9 [(.tmp 150), (.tmp 151)], some (149, false), 63⟩, ⟨some 153, .un (.not) (.tmp 152), some (149, false), 127⟩, ⟨some 154, .pick (.tmp 149) (.val (.bool true)) (.tmp 153), none, 255⟩] false) (.cond (.tmp 154) (.seq (.region [⟨some 4, .assign (.val (.bool false)), none, 0⟩] false) (.ret)) (.skip)))))) (.region [⟨some 132, .move (.tmp 11), none, 0⟩, ⟨some 133, .bin (.add) (.tmp 132) (.val (.int .i64 1)), none, 1⟩, ⟨some 11, .assign (.tmp 133), none, 3⟩] false)))))))
section
variable {G : VProg}
theorem in_loop (D : Duo G) (acts : List ActM) (i : Nat) (es fz ls off left lj) (h : PW es ls) (hz : 0 < es.length → fz = true) (σ : St) (hσ : rebase? (some [1, 5, 6, 11, 29, 30, 31]) 0 σ = SIn acts i es fz ls off left lj 0)
    (Q : Out → St → Prop) (hQ : ∀ σ', rebase? (some [1, 5, 6, 29, 30, 31]) 0 σ' = SMr acts i es fz ls off left lj → Q (.exit 3) σ') :
    WL G 0 (.loop (some [1, 5, 6, 11, 29, 30, 31]) bodyMi) σ Q := by
  refine WL_loop (SIn acts i es fz ls off left lj) (fun k => k ≤ 4) (fun k => 4 - k) ?_ 0 σ (by omega) hσ
  intro k hk
  by_cases hk4 : k < 4
  · have c1 : decide ((k : Int) - 1 ≤ 2) = true := by simp; omega
    have c2 : IntKind.i64.wrap ((k : Int) - 1 + 1) = ((k + 1 : Nat) : Int) - 1 := by rw [wrapi64 _ (by omega) (by omega)]; omega
    have t1 := D.m.read ((k : Int) - 1) es fz ls off left h
    have e1 : (fz || decide (0 ≤ (k : Int) - 1 ∧ (k : Int) - 1 < 2 ∧ 0 < es.length / 2)) = fz := by
      by_cases h0 : 0 < es.length
      · rw [hz h0]; rfl
      · rw [decide_eq_false (by omega), Bool.or_false]
    rw [e1] at t1
    have t2 := D.rread ((k : Int) - 1) es ls off left lj h
    have hl := readN_le es ls ((k : Int) - 1)
    have t3 := D.same (readN es ls ((k : Int) - 1)).2 (by have := h.n; omega)
    obtain ⟨⟨r, l⟩, hr⟩ : ∃ x, x = readN es ls ((k : Int) - 1) := ⟨_, rfl⟩
    rw [← hr] at t1 t2 t3
    clear hr hl e1 hQ hσ hz
    unfold SIn bodyMi
    simp only [refP] at t2 ⊢
    obtain ⟨u1, hu1⟩ : ∃ u, (if 0 ≤ left then left else lj) = u := ⟨_, rfl⟩
    obtain ⟨u3, hu3⟩ : ∃ u, decide (0 ≤ left) = u := ⟨_, rfl⟩
    obtain ⟨se, hse⟩ : ∃ se, ls.foldl wr es = se := ⟨_, rfl⟩
    obtain ⟨pl, hpl⟩ : ∃ pl, ls.map (·.1) = pl := ⟨_, rfl⟩
    obtain ⟨wh, hwh⟩ : ∃ wh, ls.map (·.2) = wh := ⟨_, rfl⟩
    rw [hu1, hu3, hse, hpl, hwh] at t2 ⊢
    cases fz
    all_goals
      refine runV (And.intro c1 c2) trivial ?_
      exact Qr_n (k + 1) (by kernel_rfl) ⟨by omega, by omega⟩
  · obtain rfl : k = 4 := by omega
    have c1 : decide (((4 : Nat) : Int) - 1 ≤ 2) = false := by decide
    unfold SIn bodyMi
    cases fz
    all_goals
      refine runV c1 trivial ?_
      exact Qr_x (hQ _ (by kernel_rfl))
theorem rest (D : Duo G) (acts : List ActM) (i : Nat) (e : Int) (es fz ls off left lj) (h : PW es ls) (hfz : fz = true → 0 < es.length) (Q : Out → St → Prop) (hQ : Q .normal (SMr acts i es (decide (0 < es.length)) ls off left lj)) :
    WL G 0 restMr (SW acts i e es fz ls off left lj) Q := by
  have hlen := foldl_wr_len es ls
  have t1 := D.m.room es fz ls off left (by have := h.n; omega)
  have t2 := D.rroom es (ls.foldl wr es) (ls.map (·.1)) (ls.map (·.2)) off (decide (0 ≤ left)) (if 0 ≤ left then left else lj) (by have := h.n; omega)
  have t3 := D.m.top es fz ls off left h
  have t4 := D.rtop es ls off left lj h
  rw [hlen] at t2
  have e1 : (fz || decide (0 < es.length)) = decide (0 < es.length) := by
    cases fz
    · rfl
    · rw [decide_eq_true (hfz rfl)]; rfl
  rw [e1] at t3
  have hin := in_loop D acts i es (decide (0 < es.length)) ls off left lj h (by simp)
  obtain ⟨z, hz⟩ : ∃ z, decide (0 < es.length) = z := ⟨_, rfl⟩
  rw [hz] at t3 hin hQ
  obtain ⟨n1, hn1⟩ : ∃ n, es.length / 2 = n := ⟨_, rfl⟩
  obtain ⟨n2, hn2⟩ : ∃ n, topN es ls es.length = n := ⟨_, rfl⟩
  rw [hn1] at t1 t2
  rw [hn2] at t3 t4
  clear hz e1 hfz hn1 hn2
  unfold restMr SW
  simp only [refP] at t2 t4 ⊢
  obtain ⟨u1, hu1⟩ : ∃ u, (if 0 ≤ left then left else lj) = u := ⟨_, rfl⟩
  obtain ⟨u3, hu3⟩ : ∃ u, decide (0 ≤ left) = u := ⟨_, rfl⟩
  obtain ⟨se, hse⟩ : ∃ se, ls.foldl wr es = se := ⟨_, rfl⟩
  obtain ⟨pl, hpl⟩ : ∃ pl, ls.map (·.1) = pl := ⟨_, rfl⟩
  obtain ⟨wh, hwh⟩ : ∃ wh, ls.map (·.2) = wh := ⟨_, rfl⟩
  rw [hse] at hlen
  rw [hu1, hu3, hse, hpl, hwh] at t2 t4 ⊢
  cases fz
  all_goals
    cases z
    all_goals
      refine runV trivial trivial ?_
      refine hin _ (by simp only [SIn, refP, hu1, hu3, hse, hpl, hwh]; kernel_rfl) _ fun σ' hs => ?_
      exact Qb_x hs hQ
end
end P1
end Go.Vq

namespace Go.Vq
namespace P1
open Go
set_option maxRecDepth 1000000
/-! ### what is done, on both plates -/
theorem wr_C {es : List (List Nat)} {ls : List (Nat × List Nat)} (he : ∀ c ∈ es, C64 c) (hl : ∀ w ∈ ls, C64 w.2) : ∀ c ∈ ls.foldl wr es, C64 c := by
  induction ls generalizing es with
  | nil => exact he
  | cons w ls ih =>
    rw [List.foldl_cons]
    refine ih (fun c hc => ?_) (fun w hw => hl w (List.mem_cons_of_mem _ hw))
    rcases List.mem_or_eq_of_mem_set hc with h | h
    · exact he c h
    · rw [h]; exact hl w List.mem_cons_self
theorem tear_C {n : Nat} {old new : List Nat} (h1 : C64 old) (h2 : C64 new) : C64 (tear n old new) := by
  refine ⟨tear_len h1.1 h2.1, fun x hx => ?_⟩
  rcases List.mem_append.1 hx with h | h
  · exact h2.2 x (List.mem_of_mem_take h)
  · exact h1.2 x (List.mem_of_mem_drop h)
theorem flA_C {kp : List Nat} {torn at' : Int} {es : List (List Nat)} {ls : List (Nat × List Nat)} (he : ∀ c ∈ es, C64 c) (hl : ∀ w ∈ ls, w.1 < es.length ∧ C64 w.2) (i : Nat) : ∀ c ∈ flA kp torn at' es ls i, C64 c := by
  induction i with
  | zero => exact he
  | succ i ih =>
    simp only [flA]
    split
    · rename_i w hw
      have hw' := hl w (List.mem_of_getElem? hw)
      intro c hc
      rcases List.mem_or_eq_of_mem_set hc with h | h
      · exact ih c h
      · rw [h]
        refine tear_C ?_ hw'.2
        have hlt : w.1 < (flA kp torn at' es ls i).length := by rw [flA_len]; exact hw'.1
        rw [getElem!_pos (flA kp torn at' es ls i) w.1 hlt]
        exact ih _ (List.getElem_mem _)
    · exact ih
/-- What both plates are, side by side. -/
structure Sm (m : Nat) (es : List (List Nat)) (fz : Bool) (ls : List (Nat × List Nat)) (left : Int) : Prop where
  pw : PW es ls
  lr : LR left
  m : ls.length ≤ m
  fz : fz = true → 0 < es.length
theorem Sm.le {m n : Nat} {es fz ls left} (h : Sm m es fz ls left) (hn : m ≤ n) : Sm n es fz ls left := ⟨h.pw, h.lr, by have := h.m; omega, h.fz⟩
theorem Sm.top {m : Nat} {es fz ls left} (h : Sm m es fz ls left) : Sm m es (decide (0 < es.length)) ls left := ⟨h.pw, h.lr, h.m, by simp⟩
theorem spL_lr {off : Bool} {left : Int} (h : LR left) : LR (spL off left) := by
  obtain ⟨h1, h2⟩ := h
  unfold spL LR
  split
  · omega
  · split <;> omega
/-- What both do, with the plate and the document's. -/
structure Duo2 (G : VProg) : Prop extends Duo G where
  put : ∀ (i : Int) (c : List Nat) (_ : c.length = 64) (es fz ls off left) (_ : (ls.length + 1) * 72 ≤ 140737488355328) (_ : LR left),
    lim G 25 [q0, .int .i64 i, cellV c] [plateO es fz ls off left] = if inR i es.length then (if spO off left then some (.int .i64 72, [plateO es fz ls true left]) else some (.int .i64 0, [plateO es fz (ls ++ [(i.toNat, c)]) false (spL off left)])) else some (.int .i64 71, [plateO es fz ls off left])
  rput : ∀ (i : Int) (c : List Nat) (_ : c.length = 64) (es ls off left lj) (_ : ∀ c ∈ es, c.length = 64) (_ : ∀ w ∈ ls, w.2.length = 64) (_ : ls.length < 2 ^ 30) (_ : LR left),
    lim G 27 [q0, .int .i64 i, cellV c] [refP es ls off left lj] = if inR i es.length then (if spO off left then some (.int .i64 72, [refP es ls true left lj]) else some (.int .i64 0, [refP es (ls ++ [(i.toNat, c)]) false (spL off left) lj])) else some (.int .i64 71, [refP es ls off left lj])
  flush : ∀ (es fz ls off left) (_ : ∀ c ∈ es, c.length = 64) (_ : ∀ w ∈ ls, w.1 < es.length ∧ w.2.length = 64) (_ : ls.length < 2 ^ 40) (_ : LR left),
    lim G 19 [q0] [plateO es fz ls off left] = if spO off left then some (.int .i64 72, [plateO es fz ls true left]) else some (.int .i64 0, [plateO (ls.foldl wr es) false [] false (spL off left)])
  rflush : ∀ (es ls off left lj) (_ : es.length < 2 ^ 30) (_ : LR left),
    lim G 20 [q0] [refP es ls off left lj] = if spO off left then some (.int .i64 72, [refP es ls true left lj]) else some (.int .i64 0, [refP (ls.foldl wr es) [] false (spL off left) lj])
  limit : ∀ (i : Int) (es fz ls off left), lim G 21 [q0, .int .i64 i] [plateO es fz ls off left] = some (.tup [], [plateO es fz ls off (if -1 > i then -1 else i)])
  rlimit : ∀ (i : Int) (es ls off left lj), lim G 22 [q0, .int .i64 i] [refP es ls off left lj] = some (.tup [], [refP es ls off (if -1 > i then -1 else i) i])
  fail : ∀ (kp : List Nat) (torn at' : Int) (es fz ls off left) (_ : ∀ c ∈ es, c.length = 64) (_ : ∀ w ∈ ls, w.1 < es.length ∧ w.2.length = 64) (_ : ls.length < 2 ^ 40),
    lim G 23 [q0, .isl 0 1 (byN kp), .int .i64 torn, .int .i64 at'] [plateO es fz ls off left] = some (.tup [], [plateO (flA kp torn at' es ls ls.length) false [] false (-1)])
  rfail : ∀ (kp : List Nat) (_ : ∀ x ∈ kp, x < 256) (torn at' : Int) (es ls off left lj) (_ : ∀ c ∈ es, c.length = 64) (_ : ∀ w ∈ ls, w.1 < es.length ∧ w.2.length = 64) (_ : ls.length < 2 ^ 30) (_ : es.length < 2 ^ 30),
    lim G 24 [q0, .isl 0 1 (byN kp), .int .i64 torn, .int .i64 at'] [refP es ls off left lj] = some (.tup [], [refP (flA kp torn at' es ls ls.length) [] false (-1) (if 0 ≤ left then left else lj)])
  rput8 : ∀ (side : Int) (r : Nat) (at' : Int) (inner : List Nat) (es ls off left lj) (_ : ∀ c ∈ es, c.length = 64) (_ : ∀ w ∈ ls, w.2.length = 64) (_ : es.length ≤ 4096) (_ : LR left) (_ : ls.length < 2 ^ 30) (_ : r < 2 ^ 64),
    lim G 18 [q0, .int .i64 side, .int .u64 r, .int .i64 at', .isl 0 1 (byN inner)] [refP es ls off left lj] =
      if 0 ≤ side ∧ side < 2 ∧ 1 ≤ r ∧ r ≤ 1099511627776 ∧ 0 ≤ at' ∧ at' < (es.length / 2 : Nat) ∧ inner.length ≤ 48 then
        (if spO off left then some (.int .i64 72, [refP es ls true left lj]) else some (.int .i64 0, [refP es (ls ++ [((side.toNat * (es.length / 2) + at'.toNat), cellM (mkN r at'.toNat) inner)]) false (spL off left) lj]))
      else some (.int .i64 81, [refP es ls off left lj])
  raw : ∀ (b : List Nat) (_ : b.length < 2 ^ 40), lim G 26 [.isl 0 1 (byN b)] [] = some (cellV (rawN b), [])
/-- An answer of both, with what is there then. -/
def Both (m : Nat) (x : Option (V × List Obj)) (y : Option (V × List Obj)) (v : V → Prop) : Prop :=
  ∃ w es fz ls off left lj, x = some (w, [plateO es fz ls off left]) ∧ y = some (w, [refP es ls off left lj]) ∧ v w ∧ Sm (m + 1) es fz ls left
def isN (v : V) : Prop := ∃ e : Int, v = .int .i64 e
section
variable {G : VProg}
theorem Sm.add {m : Nat} {es fz ls left} (h : Sm m es fz ls left) (hm : m < 2 ^ 20) {i : Nat} (hi : i < es.length) {c : List Nat} (hc : C64 c) {l2 : Int} (h2 : LR l2) : Sm (m + 1) es fz (ls ++ [(i, c)]) l2 := by
  refine ⟨⟨h.pw.c, fun w hw => ?_, h.pw.n, by have := h.m; simp; omega⟩, h2, by have := h.m; simp; omega, h.fz⟩
  rcases List.mem_append.1 hw with hw | hw
  · exact h.pw.w w hw
  · simp only [List.mem_singleton] at hw; subst hw; exact ⟨hi, hc⟩
theorem both0 (D : Duo2 G) {m : Nat} {es fz ls off left lj} (h : Sm m es fz ls left) (hm : m < 2 ^ 20) (side : Int) (r : Nat) (at' : Int) (inner : List Nat) (hr : r < 2 ^ 64) (hb : ∀ x ∈ inner, x < 256) :
    Both m (lim G 15 [q0, .int .i64 side, .int .u64 r, .int .i64 at', .isl 0 1 (byN inner)] [plateO es fz ls off left]) (lim G 18 [q0, .int .i64 side, .int .u64 r, .int .i64 at', .isl 0 1 (byN inner)] [refP es ls off left lj]) isN := by
  have hm' := h.m
  rw [D.m.put side r at' inner es fz ls off left h.pw.n h.lr (by omega) hr, D.rput8 side r at' inner es ls off left lj (fun c hc => (h.pw.c c hc).1) (fun w hw => (h.pw.w w hw).2.1) h.pw.n h.lr (by omega) hr]
  split
  · rename_i hc
    cases spO off left
    · have hi : side.toNat * (es.length / 2) + at'.toNat < es.length := by
        have : side.toNat = 0 ∨ side.toNat = 1 := by omega
        rcases this with e | e <;> rw [e] <;> omega
      exact ⟨_, _, _, _, _, _, _, rfl, rfl, ⟨_, rfl⟩, h.add hm hi (cellM_C hc.2.2.2.2.2.2 hb) (spL_lr h.lr)⟩
    · exact ⟨_, _, _, _, _, _, _, rfl, rfl, ⟨_, rfl⟩, h.le (by omega)⟩
  · exact ⟨_, _, _, _, _, _, _, rfl, rfl, ⟨_, rfl⟩, h.le (by omega)⟩
theorem both1 (D : Duo2 G) {m : Nat} {es fz ls off left lj} (h : Sm m es fz ls left) (hm : m < 2 ^ 20) :
    Both m (lim G 19 [q0] [plateO es fz ls off left]) (lim G 20 [q0] [refP es ls off left lj]) isN := by
  have hm' := h.m
  have hn := h.pw.n
  rw [D.flush es fz ls off left (fun c hc => (h.pw.c c hc).1) (fun w hw => ⟨(h.pw.w w hw).1, (h.pw.w w hw).2.1⟩) (by omega) h.lr, D.rflush es ls off left lj (by omega) h.lr]
  cases spO off left
  · exact ⟨_, _, _, _, _, _, _, rfl, rfl, ⟨_, rfl⟩, ⟨⟨wr_C h.pw.c fun w hw => (h.pw.w w hw).2, by simp, by rw [foldl_wr_len]; exact hn, by simp⟩, spL_lr h.lr, by simp, by simp⟩⟩
  · exact ⟨_, _, _, _, _, _, _, rfl, rfl, ⟨_, rfl⟩, h.le (by omega)⟩
theorem both2 (D : Duo2 G) {m : Nat} {es fz ls off left lj} (h : Sm m es fz ls left) (i : Int) (hi : i < 9223372036854775808) :
    Both m (lim G 21 [q0, .int .i64 i] [plateO es fz ls off left]) (lim G 22 [q0, .int .i64 i] [refP es ls off left lj]) (fun v => v = .tup []) := by
  rw [D.limit, D.rlimit]
  exact ⟨_, _, _, _, _, _, _, rfl, rfl, rfl, ⟨h.pw, by unfold LR; split <;> omega, by have := h.m; omega, h.fz⟩⟩
theorem both3 (D : Duo2 G) {m : Nat} {es fz ls off left lj} (h : Sm m es fz ls left) (hm : m < 2 ^ 20) (kp : List Nat) (hk : ∀ x ∈ kp, x < 256) (torn at' : Int) :
    Both m (lim G 23 [q0, .isl 0 1 (byN kp), .int .i64 torn, .int .i64 at'] [plateO es fz ls off left]) (lim G 24 [q0, .isl 0 1 (byN kp), .int .i64 torn, .int .i64 at'] [refP es ls off left lj]) (fun v => v = .tup []) := by
  have hm' := h.m
  have hn := h.pw.n
  have h1 := fun c hc => (h.pw.c c hc).1
  have h2 : ∀ w ∈ ls, w.1 < es.length ∧ w.2.length = 64 := fun w hw => ⟨(h.pw.w w hw).1, (h.pw.w w hw).2.1⟩
  rw [D.fail kp torn at' es fz ls off left h1 h2 (by omega), D.rfail kp hk torn at' es ls off left lj h1 h2 (by omega) (by omega)]
  exact ⟨_, _, _, _, _, _, _, rfl, rfl, rfl, ⟨⟨flA_C h.pw.c h.pw.w _, by simp, by rw [flA_len]; exact hn, by simp⟩, by unfold LR; omega, by simp, by simp⟩⟩
theorem both4 (D : Duo2 G) {m : Nat} {es fz ls off left lj} (h : Sm m es fz ls left) (hm : m < 2 ^ 20) (i : Int) (c : List Nat) (hc : C64 c) :
    Both m (lim G 25 [q0, .int .i64 i, cellV c] [plateO es fz ls off left]) (lim G 27 [q0, .int .i64 i, cellV c] [refP es ls off left lj]) isN := by
  have hm' := h.m
  rw [D.put i c hc.1 es fz ls off left (by omega) h.lr, D.rput i c hc.1 es ls off left lj (fun c hc => (h.pw.c c hc).1) (fun w hw => (h.pw.w w hw).2.1) (by omega) h.lr]
  cases hi : inR i es.length
  · exact ⟨_, _, _, _, _, _, _, rfl, rfl, ⟨_, rfl⟩, h.le (by omega)⟩
  · cases spO off left
    · exact ⟨_, _, _, _, _, _, _, rfl, rfl, ⟨_, rfl⟩, h.add hm (by simp [inR] at hi; omega) hc (spL_lr h.lr)⟩
    · exact ⟨_, _, _, _, _, _, _, rfl, rfl, ⟨_, rfl⟩, h.le (by omega)⟩
end
end P1
end Go.Vq

namespace Go.Vq
namespace P1
open Go
set_option maxRecDepth 1000000
set_option maxHeartbeats 16000000
section
variable {G : VProg}
abbrev MrA := Nat × List (List Nat) × Bool × List (Nat × List Nat) × Bool × Int × Int
abbrev SMa (acts : List ActM) (a : MrA) : St := SMr acts a.1 a.2.1 a.2.2.1 a.2.2.2.1 a.2.2.2.2.1 a.2.2.2.2.2.1 a.2.2.2.2.2.2
abbrev IMa (acts : List ActM) (a : MrA) : Prop := a.1 ≤ acts.length ∧ Sm a.1 a.2.1 a.2.2.1 a.2.2.2.1 a.2.2.2.2.2.1
def incMr : VCode := (.region [⟨some 155, .bin (.add) (.tmp 31) (.val (.int .i64 1)), none, 0⟩, ⟨some 31, .move (.tmp 155), none, 1⟩] false)
theorem kend (D : Duo2 G) (acts : List ActM) (hs : acts.length ≤ 100) (i : Nat) (hi : i < acts.length) (e : Int) (es fz ls off left lj) (h : Sm (i + 1) es fz ls left) (σ : St) (hσ : rebase? (some [1, 5, 6, 9, 10, 29, 30, 31]) 0 σ = SW acts i e es fz ls off left lj) (Q : Out → St → Prop) :
    Qblk 0 2 (some [1, 5, 6, 9, 10, 29, 30, 31]) (Qseq (lim G) (itersOf G) (limX G) 0 restMr (Qblk 0 1 (some [1, 5, 6, 29, 30, 31]) (Qseq (lim G) (itersOf G) (limX G) 0 incMr (Qrnd (some [1, 5, 6, 29, 30, 31]) 0 (SMa acts) (fun b => IMa acts b ∧ acts.length - b.1 < acts.length - i) Q)))) .normal σ := by
  have i1 := inc64 i (by omega)
  refine Qb_n hσ (Qs_n (rest D.toDuo acts i e es fz ls off left lj h.pw h.fz _ ?_))
  have h' := h.top
  refine Qb_n (σ1 := SMr acts i es (decide (0 < es.length)) ls off left lj) (by unfold SMr; cases decide (0 < es.length) <;> kernel_rfl) (Qs_n ?_)
  unfold SMr incMr
  cases hz : decide (0 < es.length)
  all_goals
    rw [hz] at h'
    refine runV i1 trivial ?_
    exact Qr_n (i + 1, es, _, ls, off, left, lj) (by kernel_rfl) ⟨⟨by simp only; omega, h'⟩, by simp only; omega⟩
theorem mr_round (D : Duo2 G) (acts : List ActM) (hs : acts.length ≤ 100) (hA : ∀ a ∈ acts, a.at' < 9223372036854775808 ∧ a.r < 2 ^ 64 ∧ ∀ x ∈ a.inner, x < 256) (i : Nat) (es fz ls off left lj) (h : Sm i es fz ls left) (hi : i < acts.length)
    (b100 : decide ((100 : Int) < (acts[i].inner.length : Int)) = false) (Q : Out → St → Prop) :
    WL G 0 bodyMr (SMr acts i es fz ls off left lj) (Qrnd (some [1, 5, 6, 29, 30, 31]) 0 (SMa acts) (fun b => IMa acts b ∧ acts.length - b.1 < acts.length - i) Q) := by
  have hlt : decide ((i : Int) < (acts.length : Int)) = true := by simp; omega
  obtain ⟨⟨k, side, at', torn, r, inner⟩, ha⟩ : ∃ a, a = acts[i] := ⟨_, rfl⟩
  obtain ⟨hat, hr, hb⟩ := hA _ (List.getElem_mem hi)
  rw [← ha] at hat hr hb b100
  simp only at hat hr hb b100
  have hg : (acts.map actV)[i]? = some (actV ⟨k, side, at', torn, r, inner⟩) := by rw [ha]; simp [hi]
  have hil : inner.length ≤ 100 := by simp at b100; omega
  have F0 := And.intro hlt (And.intro hg b100)
  have hm : i < 2 ^ 20 := by omega
  clear hA ha
  unfold bodyMr SMr
  cases b0 : (k == 0)
  case true =>
    obtain ⟨w, es', fz', ls', off', left', lj', t1, t2, ⟨e, rfl⟩, h'⟩ := both0 D (off := off) (lj := lj) h hm side r at' inner hr hb
    clear h hb hm
    cases fz <;> cases fz'
    all_goals
      refine runV (And.intro b0 F0) trivial ?_
      exact kend D acts hs i hi e _ _ _ off' _ lj' h' _ (by kernel_rfl) _
  cases b1 : (k == 1)
  case true =>
    obtain ⟨w, es', fz', ls', off', left', lj', t1, t2, ⟨e, rfl⟩, h'⟩ := both1 D (off := off) (lj := lj) h hm
    clear h hb hm
    cases fz <;> cases fz'
    all_goals
      refine runV (And.intro b0 (And.intro b1 F0)) trivial ?_
      exact kend D acts hs i hi e _ _ _ off' _ lj' h' _ (by kernel_rfl) _
  cases b2 : (k == 2)
  case true =>
    obtain ⟨w, es', fz', ls', off', left', lj', t1, t2, rfl, h'⟩ := both2 D (off := off) (lj := lj) h at' hat
    clear h hb hm
    cases fz <;> cases fz'
    all_goals
      refine runV (And.intro b0 (And.intro b1 (And.intro b2 F0))) trivial ?_
      exact kend D acts hs i hi 0 _ _ _ off' _ lj' h' _ (by kernel_rfl) _
  cases b3 : (k == 3)
  case true =>
    obtain ⟨w, es', fz', ls', off', left', lj', t1, t2, rfl, h'⟩ := both3 D (off := off) (lj := lj) h hm inner hb torn at'
    clear h hb hm
    cases fz <;> cases fz'
    all_goals
      refine runV (And.intro b0 (And.intro b1 (And.intro b2 (And.intro b3 F0)))) trivial ?_
      exact kend D acts hs i hi 0 _ _ _ off' _ lj' h' _ (by kernel_rfl) _
  cases b4 : (k == 4)
  case true =>
    have t3 := D.raw inner (by omega)
    have hc := rawN_C hb
    obtain ⟨c, hcd⟩ : ∃ c, c = rawN inner := ⟨_, rfl⟩
    rw [← hcd] at t3 hc
    obtain ⟨w, es', fz', ls', off', left', lj', t1, t2, ⟨e, rfl⟩, h'⟩ := both4 D (off := off) (lj := lj) h hm at' c hc
    have hl := hc.1
    clear h hb hm hc hcd
    cases fz <;> cases fz'
    all_goals
      refine runV (And.intro b0 (And.intro b1 (And.intro b2 (And.intro b3 (And.intro b4 (And.intro (cf hl) F0)))))) (apart_by c) ?_
      exact kend D acts hs i hi e _ _ _ off' _ lj' h' _ (by kernel_rfl) _
  clear hb hm
  cases fz
  all_goals
    refine runV (And.intro b0 (And.intro b1 (And.intro b2 (And.intro b3 (And.intro b4 F0))))) trivial ?_
    exact kend D acts hs i hi 0 _ _ _ off _ lj (h.le (by omega)) _ (by kernel_rfl) _
end
end P1
end Go.Vq

namespace Go.Vq
namespace P1
open Go
set_option maxRecDepth 1000000
set_option maxHeartbeats 16000000
abbrev b5 : VCode := .seq (.region [⟨some 4, .assign (.val (.bool false)), none, 0⟩] false) (.seq (.seq (.region [⟨some 16, .call true 12 0 [], none, 0⟩, ⟨some 17, .un (.not) (.tmp 16), none, 1⟩] false) (.cond (.tmp 17) (.seq (.region [⟨some 4, .assign (.val (.bool false)), none, 0⟩] false) (.ret)) (.skip))) (.seq (.seq (.region [⟨some 18, .move (.tmp 0), none, 0⟩, ⟨some 19, .bin (.gtr) (.tmp 18) (.val (.int .i64 40)), none, 1⟩, ⟨some 20, .move (.tmp 19), none, 3⟩, ⟨some 21, .move (.tmp 1), some (20, false), 7⟩, ⟨some 22, .len (.slc 6) (.tmp 21), some (20, false), 15⟩, ⟨some 23, .bin (.gtr) (.tmp 22) (.val (.int .i64 100)), some (20, false), 31⟩, ⟨some 24, .pick (.tmp 20) (.val (.bool true)) (.tmp 23), none, 63⟩] false) (.cond (.tmp 24) (.seq (.region [⟨some 4, .assign (.val (.bool true)), none, 0⟩] false) (.ret)) (.skip))) (.seq (.region [⟨some 25, .move (.tmp 0), none, 0⟩, ⟨some 26, .call false 13 0 [(.tmp 25)], none, 1⟩, ⟨some 27, .move (.tmp 0), none, 0⟩, ⟨some 28, .call false 17 4 [(.tmp 27)], none, 7⟩, ⟨some 5, .assign (.tmp 26), none, 15⟩, ⟨some 6, .assign (.tmp 28), none, 31⟩] false) (.seq (.seq (.region [⟨some 29, .move (.tmp 1), none, 0⟩, ⟨some 30, .len (.slc 6) (.tmp 29), none, 1⟩, ⟨some 31, .move (.val (.int .i64 0)), none, 0⟩] false) (.block 0 (some []) (.loop (some [1, 5, 6, 29, 30, 31]) (.seq (.region [⟨some 32, .bin (.lss) (.tmp 31) (.tmp 30), none, 0⟩] false) (.seq (.cond (.tmp 32) (.skip) (.exit 0)) (.seq (.block 1 (some [1, 5, 6, 29, 30, 31]) (.seq (.region [⟨some 33, .indexAddr none 6 (.tmp 29) (.tmp 31), none, 0⟩, ⟨some 34, .load true 6 (.tmp 33), none, 1⟩, ⟨some 8, .alloc 8 [(.int .i64 0), (.int .i64 0), (.int .i64 0), (.int .i64 0), (.int .u64 0), (.xsl 0 1 [])], none, 0⟩, ⟨none, .store 6 (.tmp 8) (.tmp 34), none, 7⟩] false) (.seq (.seq (.region [⟨some 35, .fieldAddr 5 (.tmp 8), none, 0⟩, ⟨some 36, .load false 1 (.tmp 35), none, 1⟩, ⟨some 37, .len (.slc 1) (.tmp 36), none, 3⟩, ⟨some 38, .bin (.gtr) (.tmp 37) (.val (.int .i64 100)), none, 7⟩] false) (.cond (.tmp 38) (.seq (.region [⟨some 4, .assign (.val (.bool true)), none, 0⟩] false) (.ret)) (.skip))) (.seq (.region [⟨some 9, .assign (.val (.int .i64 0)), none, 0⟩, ⟨some 10, .assign (.val (.int .i64 0)), none, 1⟩] false) (.seq (.seq (.region [⟨some 39, .fieldAddr 0 (.tmp 8), none, 0⟩, ⟨some 40, .load false 1 (.tmp 39), none, 1⟩] false) (.block 2 (some [1, 5, 6, 9, 10, 29, 30, 31]) (.seq (.region [⟨some 42, .eq false (.num) (.tmp 40) (.val (.int .i64 0)), none, 0⟩, ⟨some 41, .assign (.tmp 42), none, 1⟩] false) (.cond (.tmp 41) (.seq (.region [⟨some 43, .move (.tmp 5), none, 0⟩, ⟨some 44, .fieldAddr 1 (.tmp 8), none, 0⟩, ⟨some 45, .load false 1 (.tmp 44), none, 2⟩, ⟨some 46, .fieldAddr 4 (.tmp 8), none, 0⟩, ⟨some 47, .load false 1 (.tmp 46), none, 8⟩, ⟨some 48, .fieldAddr 2 (.tmp 8), none, 0⟩, ⟨some 49, .load false 1 (.tmp 48), none, 32⟩, ⟨some 50, .fieldAddr 5 (.tmp 8), none, 0⟩, ⟨some 51, .load false 1 (.tmp 50), none, 128⟩, ⟨some 52, .call false 15 9 [(.tmp 43), (.tmp 45), (.tmp 47), (.tmp 49), (.tmp 51)], none, 511⟩, ⟨some 9, .assign (.tmp 52), none, 1023⟩] false) (.region [⟨some 53, .move (.tmp 6), none, 0⟩, ⟨some 54, .fieldAddr 1 (.tmp 8), none, 0⟩, ⟨some 55, .load false 1 (.tmp 54), none, 2⟩, ⟨some 56, .fieldAddr 4 (.tmp 8), none, 0⟩, ⟨some 57, .load false 1 (.tmp 56), none, 8⟩, ⟨some 58, .fieldAddr 2 (.tmp 8), none, 0⟩, ⟨some 59, .load false 1 (.tmp 58), none, 32⟩, ⟨some 60, .fieldAddr 5 (.tmp 8), none, 0⟩, ⟨some 61, .load false 1 (.tmp 60), none, 128⟩, ⟨some 62, .call false 18 9 [(.tmp 53), (.tmp 55), (.tmp 57), (.tmp 59), (.tmp 61)], none, 511⟩, ⟨some 10, .assign (.tmp 62), none, 1023⟩] false)) (.seq (.region [⟨some 64, .eq false (.num) (.tmp 40) (.val (.int .i64 1)), none, 0⟩, ⟨some 63, .assign (.tmp 64), none, 1⟩] false) (.cond (.tmp 63) (.seq (.region [⟨some 65, .move (.tmp 5), none, 0⟩, ⟨some 66, .call false 19 9 [(.tmp 65)], none, 1⟩, ⟨some 9, .assign (.tmp 66), none, 3⟩] false) (.region [⟨some 67, .move (.tmp 6), none, 0⟩, ⟨some 68, .call false 20 9 [(.tmp 67)], none, 1⟩, ⟨some 10, .assign (.tmp 68), none, 3⟩] false)) (.seq (.region [⟨some 70, .eq false (.num) (.tmp 40) (.val (.int .i64 2)), none, 0⟩, ⟨some 69, .assign (.tmp 70), none, 1⟩] false) (.cond (.tmp 69) (.seq (.region [⟨some 71, .move (.tmp 5), none, 0⟩, ⟨some 72, .fieldAddr 2 (.tmp 8), none, 0⟩, ⟨some 73, .load false 1 (.tmp 72), none, 2⟩, ⟨some 74, .call false 21 9 [(.tmp 71), (.tmp 73)], none, 7⟩] false) (.region [⟨some 75, .move (.tmp 6), none, 0⟩, ⟨some 76, .fieldAddr 2 (.tmp 8), none, 0⟩, ⟨some 77, .load false 1 (.tmp 76), none, 2⟩, ⟨some 78, .call false 22 9 [(.tmp 75), (.tmp 77)], none, 7⟩] false)) (.seq (.region [⟨some 80, .eq false (.num) (.tmp 40) (.val (.int .i64 3)), none, 0⟩, ⟨some 79, .assign (.tmp 80), none, 1⟩] false) (.cond (.tmp 79) (.seq (.region [⟨some 81, .move (.tmp 5), none, 0⟩, ⟨some 82, .fieldAddr 5 (.tmp 8), none, 0⟩, ⟨some 83, .load false 1 (.tmp 82), none, 2⟩, ⟨some 84, .fieldAddr 3 (.tmp 8), none, 0⟩, ⟨some 85, .load false 1 (.tmp 84), none, 8⟩, ⟨some 86, .fieldAddr 2 (.tmp 8), none, 0⟩, ⟨some 87, .load false 1 (.tmp 86), none, 32⟩, ⟨some 88, .call false 23 9 [(.tmp 81), (.tmp 83), (.tmp 85), (.tmp 87)], none, 127⟩] false) (.region [⟨some 89, .move (.tmp 6), none, 0⟩, ⟨some 90, .fieldAddr 5 (.tmp 8), none, 0⟩, ⟨some 91, .load false 1 (.tmp 90), none, 2⟩, ⟨some 92, .fieldAddr 3 (.tmp 8), none, 0⟩, ⟨some 93, .load false 1 (.tmp 92), none, 8⟩, ⟨some 94, .fieldAddr 2 (.tmp 8), none, 0⟩, ⟨some 95, .load false 1 (.tmp 94), none, 32⟩, ⟨some 96, .call false 24 9 [(.tmp 89), (.tmp 91), (.tmp 93), (.tmp 95)], none, 127⟩] false)) (.seq (.region [⟨some 98, .eq false (.num) (.tmp 40) (.val (.int .i64 4)), none, 0⟩, ⟨some 97, .assign (.tmp 98), none, 1⟩] false) (.cond (.tmp 97) (.seq (.region [⟨some 99, .move (.tmp 5), none, 0⟩, ⟨some 100, .fieldAddr 2 (.tmp 8), none, 0⟩, ⟨some 101, .load false 1 (.tmp 100), none, 2⟩, ⟨some 102, .fieldAddr 5 (.tmp 8), none, 0⟩, ⟨some 103, .load false 1 (.tmp 102), none, 8⟩, ⟨some 104, .call true 26 9 [(.tmp 103)], none, 24⟩, ⟨some 105, .call false 25 9 [(.tmp 99), (.tmp 101), (.tmp 104)], none, 63⟩, ⟨some 9, .assign (.tmp 105), none, 127⟩] true) (.region [⟨some 106, .move (.tmp 6), none, 0⟩, ⟨some 107, .fieldAddr 2 (.tmp 8), none, 0⟩, ⟨some 108, .load false 1 (.tmp 107), none, 2⟩, ⟨some 109, .fieldAddr 5 (.tmp 8), none, 0⟩, ⟨some 110, .load false 1 (.tmp 109), none, 8⟩, ⟨some 111, .call true 26 9 [(.tmp 110)], none, 24⟩, ⟨some 112, .call false 27 9 [(.tmp 106), (.tmp 108), (.tmp 111)], none, 63⟩, ⟨some 10, .assign (.tmp 112), none, 127⟩] true)) (.skip))))))))))))) (.seq (.seq (.region [⟨some 113, .move (.tmp 9), none, 0⟩, ⟨some 114, .move (.tmp 10), none, 0⟩, ⟨some 115, .eq true (.num) (.tmp 113) (.tmp 114), none, 3⟩, ⟨some 116, .move (.tmp 115), none, 7⟩, ⟨some 117, .move (.tmp 5), some (116, false), 15⟩, ⟨some 118, .call false 28 9 [(.tmp 117)], some (116, false), 31⟩, ⟨some 119, .move (.tmp 6), some (116, false), 15⟩, ⟨some 120, .call true 29 9 [(.tmp 119)], some (116, false), 127⟩, ⟨some 121, .eq true (.num) (.tmp 118) (.tmp 120), some (116, false), 255⟩, ⟨some 122, .pick (.tmp 116) (.val (.bool true)) (.tmp 121), none, 511⟩, ⟨some 123, .move (.tmp 122), none, 1023⟩, ⟨some 124, .move (.tmp 5), some (123, false), 2047⟩, ⟨some 125, .call false 16 9 [(.tmp 124)], some (123, false), 4095⟩, ⟨some 126, .move (.tmp 6), some (123, false), 2047⟩, ⟨some 127, .call false 30 9 [(.tmp 126)], some (123, false), 16383⟩, ⟨some 128, .eq true (.num) (.tmp 125) (.tmp 127), some (123, false), 32767⟩, ⟨some 129, .pick (.tmp 123) (.val (.bool true)) (.tmp 128), none, 65535⟩] false) (.cond (.tmp 129) (.seq (.region [⟨some 4, .assign (.val (.bool false)), none, 0⟩] false) (.ret)) (.skip))) (.seq (.region [⟨some 11, .assign (.val (.int .i64 (-1))), none, 0⟩] false) (.block 3 (some [1, 5, 6, 29, 30, 31]) (.loop (some [1, 5, 6, 11, 29, 30, 31]) (.seq (.seq (.region [⟨some 130, .move (.tmp 11), none, 0⟩, ⟨some 131, .bin (.leq) (.tmp 130) (.val (.int .i64 2)), none, 1⟩] false) (.cond (.tmp 131) (.skip) (.exit 3))) (.seq (.block 4 none (.seq (.region [⟨some 135, .move (.tmp 5), none, 0⟩, ⟨some 136, .move (.tmp 11), none, 0⟩, ⟨some 137, .call false 14 9 [(.tmp 135), (.tmp 136)], none, 3⟩, ⟨some 134, .move (.tmp 137), none, 7⟩, ⟨some 138, .extract (.tmp 134) 0, none, 15⟩, ⟨some 139, .extract (.tmp 134) 1, none, 15⟩, ⟨some 12, .assign (.tmp 138), none, 31⟩, ⟨some 13, .assign (.tmp 139), none, 127⟩] false) (.seq (.region [⟨some 141, .move (.tmp 6), none, 0⟩, ⟨some 142, .move (.tmp 11), none, 0⟩, ⟨some 143, .call false 31 9 [(.tmp 141), (.tmp 142)], none, 3⟩, ⟨some 140, .move (.tmp 143), none, 7⟩, ⟨some 144, .extract (.tmp 140) 0, none, 15⟩, ⟨some 145, .extract (.tmp 140) 1, none, 15⟩, ⟨some 14, .assign (.tmp 144), none, 31⟩, ⟨some 15, .assign (.tmp 145), none, 127⟩] false) (.seq (.region [⟨some 146, .move (.tmp 12), none, 0⟩, ⟨some 147, .move (.tmp 14), none, 0⟩, ⟨some 148, .eq true (.num) (.tmp 146) (.tmp 147), none, 3⟩, ⟨some 149, .move (.tmp 148), none, 7⟩, ⟨some 150, .move (.tmp 13), some (149, false), 15⟩, ⟨some 151, .move (.tmp 15), some (149, false), 15⟩, ⟨some 152, .call true 32 9 [(.tmp 150), (.tmp 151)], some (149, false), 63⟩, ⟨some 153, .un (.not) (.tmp 152), some (149, false), 127⟩, ⟨some 154, .pick (.tmp 149) (.val (.bool true)) (.tmp 153), none, 255⟩] false) (.cond (.tmp 154) (.seq (.region [⟨some 4, .assign (.val (.bool false)), none, 0⟩] false) (.ret)) (.skip)))))) (.region [⟨some 132, .move (.tmp 11), none, 0⟩, ⟨some 133, .bin (.add) (.tmp 132) (.val (.int .i64 1)), none, 1⟩, ⟨some 11, .assign (.tmp 133), none, 3⟩] false)))))))))))) (.region [⟨some 155, .bin (.add) (.tmp 31) (.val (.int .i64 1)), none, 0⟩, ⟨some 31, .move (.tmp 155), none, 1⟩] false))))))) (.seq (.region [⟨some 4, .assign (.val (.bool true)), none, 0⟩] false) (.ret))))))
abbrev v5 : VFunc := { nparams := 2, ntmps := 156, nsites := 9, results := [.tmp 4], body := b5 }
section
variable {G : VProg}
theorem marksRun (hG : G 5 = some (.code v5)) (hA : Vq.lim G 12 [] [] = some (.bool true, [])) (hN : ∀ n : Int, lim G 13 [.int .i64 n] [] = some (q0, [plateO (List.replicate (max 0 (min n 4096)).toNat zero64) false [] false (-1)]))
    (hrN : ∀ n : Int, lim G 17 [.int .i64 n] [] = some (q0, [refP (List.replicate (max 0 (min n 4096)).toNat zero64) [] false (-1) 0])) (D : Duo2 G) (n : Int) (acts : List ActM) (hA : ∀ a ∈ acts, a.at' < 9223372036854775808 ∧ a.r < 2 ^ 64 ∧ ∀ x ∈ a.inner, x < 256) :
    Vq.lim G 5 [.int .i64 n, aS acts] [] = some (.bool true, []) := by
  cases b1 : decide (40 < n)
  case true => exact lim_fun hG (h := runV b1 trivial trivial)
  cases b2 : decide ((100 : Int) < (acts.length : Int))
  case true => exact lim_fun hG (h := runV (And.intro b1 b2) trivial trivial)
  have hs : acts.length ≤ 100 := by simp at b2; omega
  have t1 := hN n
  have t2 := hrN n
  obtain ⟨es, hes⟩ : ∃ es, es = List.replicate (max 0 (min n 4096)).toNat zero64 := ⟨_, rfl⟩
  rw [← hes] at t1 t2
  have h0 : Sm 0 es false [] (-1) := by
    refine ⟨⟨fun c hc => ?_, by simp, by rw [hes]; simp; omega, by simp⟩, by unfold LR; omega, by simp, by simp⟩
    rw [hes] at hc
    rw [List.eq_of_mem_replicate hc]; exact zero_C
  clear hes
  refine lim_fun hG (h := runV (And.intro b1 b2) trivial ?_)
  refine WL_loop (SMa acts) (IMa acts) (fun b => acts.length - b.1) ?_ (0, es, false, [], false, -1, 0) _ ⟨Nat.zero_le _, h0⟩ (by kernel_rfl)
  rintro ⟨i, es, fz, ls, off, left, lj⟩ ⟨hi, h⟩
  simp only at hi h
  by_cases hlt0 : i < acts.length
  · cases b3 : decide ((100 : Int) < (acts[i].inner.length : Int))
    · exact mr_round D acts hs hA i es fz ls off left lj h hlt0 b3 _
    · have hlt : decide ((i : Int) < (acts.length : Int)) = true := by simp; omega
      obtain ⟨⟨k, side, at', torn, r, inner⟩, ha⟩ : ∃ a, a = acts[i] := ⟨_, rfl⟩
      rw [← ha] at b3
      simp only at b3
      have hg : (acts.map actV)[i]? = some (actV ⟨k, side, at', torn, r, inner⟩) := by rw [ha]; simp [hlt0]
      unfold SMa SMr
      cases fz
      all_goals
        refine runV (And.intro hlt (And.intro hg b3)) trivial ?_
        exact Qr_r (Qb_r (Qs_r (Qe_r (by kernel_rfl))))
  · obtain rfl : i = acts.length := by omega
    have hlt : decide ((acts.length : Int) < (acts.length : Int)) = false := by simp
    unfold SMa SMr
    cases fz
    all_goals
      refine runV hlt trivial ?_
      refine Qr_x ?_
      refine Qb_x (σ1 := ⟨(.gone 0 :: .gone 0 :: .gone 0 :: .gone 0 :: .gone 0 :: .gone 0 :: .gone 0 :: .gone 0 :: .gone 0 :: .gone 0 :: .gone 0 :: .gone 0 :: .gone 0 :: .gone 0 :: .gone 0 :: .gone 0 :: .gone 0 :: .gone 0 :: .gone 0 :: .gone 0 :: .gone 0 :: .gone 0 :: .gone 0 :: .gone 0 :: .gone 0 :: .gone 0 :: .gone 0 :: .gone 0 :: .gone 0 :: .gone 0 :: .gone 0 :: .gone 0 :: .gone 0 :: .gone 0 :: .gone 0 :: .gone 0 :: .gone 0 :: .gone 0 :: .gone 0 :: .gone 0 :: .gone 0 :: .gone 0 :: .gone 0 :: .gone 0 :: .gone 0 :: .gone 0 :: .gone 0 :: .gone 0 :: .gone 0 :: .gone 0 :: .gone 0 :: .gone 0 :: .gone 0 :: .gone 0 :: .gone 0 :: .gone 0 :: .gone 0 :: .gone 0 :: .gone 0 :: .gone 0 :: .gone 0 :: .gone 0 :: .gone 0 :: .gone 0 :: .gone 0 :: .gone 0 :: .gone 0 :: .gone 0 :: .gone 0 :: .gone 0 :: .gone 0 :: .gone 0 :: .gone 0 :: .gone 0 :: .gone 0 :: .gone 0 :: .gone 0 :: .gone 0 :: .gone 0 :: .gone 0 :: .gone 0 :: .gone 0 :: .gone 0 :: .gone 0 :: .gone 0 :: .gone 0 :: .gone 0 :: .gone 0 :: .gone 0 :: .gone 0 :: .gone 0 :: .gone 0 :: .gone 0 :: .gone 0 :: .gone 0 :: .gone 0 :: .gone 0 :: .gone 0 :: .gone 0 :: .gone 0 :: .gone 0 :: .gone 0 :: .gone 0 :: .gone 0 :: .gone 0 :: .gone 0 :: .gone 0 :: .gone 0 :: .gone 0 :: .gone 0 :: .gone 0 :: .gone 0 :: .gone 0 :: .gone 0 :: .gone 0 :: .gone 0 :: .gone 0 :: .gone 0 :: .gone 0 :: .gone 0 :: .gone 0 :: .gone 0 :: .gone 0 :: .gone 0 :: .gone 0 :: .gone 0 :: .gone 0 :: .gone 0 :: .gone 0 :: .gone 0 :: .gone 0 :: .gone 0 :: .gone 0 :: .gone 0 :: .gone 0 :: .gone 0 :: .gone 0 :: .gone 0 :: .gone 0 :: .gone 0 :: .gone 0 :: .gone 0 :: .gone 0 :: .gone 0 :: .gone 0 :: .gone 0 :: .gone 0 :: .gone 0 :: .gone 0 :: .gone 0 :: .gone 0 :: .gone 0 :: .gone 0 :: .gone 0 :: .gone 0 :: .gone 0 :: []), [none, none, none, none, none, none, none, none, none]⟩) (by kernel_rfl) ?_
      exact runV trivial trivial trivial
end
end P1
end Go.Vq

