/- Proved: ReelNames answers true for any arguments, whatever the world it is called in; no condition. -/
import Derived.Test.YtbbpandancpibaaRows
import Derived.Test.YtbbpandancpibaaK
import Derived.Test.YtbbpandancpibaaF23
import Derived.WalkKit
import Derived.ProofKit
import Derived.OpenShut
import Derived.ShutString
set_option linter.unusedVariables false
set_option linter.unusedSimpArgs false
namespace Go.Vq
open Go
theorem true_walk {P : Program} {G : VProg} (hG : GOk P G) {f : FuncId} {M : Nat} (h : call G M f [] [] = some (.bool true, [])) (w : World) :
    Calls P f #[] w fun e w' => e = .returned (.bool true) ∧ Still w w' := by
  have hb := (call_sound hG M f [] [] _ _ h).2.2 (env0 w.heap) [] w (core0 w.heap)
  refine hb.mono fun e w' he => ?_
  cases e with
  | returned x =>
    obtain ⟨E', hC, hg, hs⟩ := he
    have := slot_toVal (hC.slot 0 _ x rfl rfl) (y := .bool true) rfl
    exact ⟨by rw [this], still_of hg hs⟩
  | _ => exact he.elim
end Go.Vq

namespace Go.Vq
namespace P1
open Go
set_option maxRecDepth 1000000
set_option maxHeartbeats 8000000
abbrev b7 : VCode := .seq (.region [⟨some 0, .assign (.val (.bool false)), none, 0⟩] false) (.seq (.seq (.region [⟨some 9, .call true 33 0 [], none, 0⟩, ⟨some 10, .un (.not) (.tmp 9), none, 1⟩] false) (.cond (.tmp 10) (.seq (.region [⟨some 0, .assign (.val (.bool false)), none, 0⟩] false) (.ret)) (.skip))) (.seq (.region [⟨some 12, .call false 13 0 [(.val (.int .i64 2))], none, 0⟩, ⟨some 13, .call false 34 4 [(.tmp 12)], none, 1⟩, ⟨some 11, .move (.tmp 13), none, 3⟩, ⟨some 14, .extract (.tmp 11) 0, none, 7⟩, ⟨some 15, .extract (.tmp 11) 1, none, 7⟩, ⟨some 16, .extract (.tmp 11) 2, none, 7⟩, ⟨some 1, .assign (.tmp 14), none, 15⟩, ⟨some 2, .assign (.tmp 15), none, 95⟩, ⟨some 3, .assign (.tmp 16), none, 255⟩] false) (.seq (.region [⟨some 17, .move (.tmp 1), none, 0⟩, ⟨some 18, .call false 36 8 [(.tmp 17), (.val (.nilS 1))], none, 1⟩, ⟨some 4, .assign (.tmp 18), none, 3⟩] false) (.seq (.region [⟨some 19, .move (.tmp 1), none, 0⟩, ⟨some 20, .call false 37 8 [(.tmp 19)], none, 1⟩, ⟨some 5, .assign (.tmp 20), none, 3⟩] false) (.seq (.region [⟨some 21, .move (.tmp 1), none, 0⟩, ⟨some 22, .makeSlice 1 1 (.int .u8 0) (.val (.int .i64 41)) (.val (.int .i64 41)), none, 0⟩, ⟨some 23, .call false 35 8 [(.tmp 21), (.tmp 22)], none, 3⟩, ⟨some 6, .assign (.tmp 23), none, 7⟩] false) (.seq (.region [⟨some 24, .move (.tmp 1), none, 0⟩, ⟨some 25, .makeSlice 1 1 (.int .u8 0) (.val (.int .i64 40)) (.val (.int .i64 40)), none, 0⟩, ⟨some 26, .call false 35 8 [(.tmp 24), (.tmp 25)], none, 3⟩, ⟨some 7, .assign (.tmp 26), none, 7⟩] false) (.seq (.region [⟨some 27, .move (.tmp 1), none, 0⟩, ⟨some 28, .call false 36 8 [(.tmp 27), (.val (.nilS 1))], none, 1⟩, ⟨some 8, .assign (.tmp 28), none, 3⟩] false) (.seq (.region [⟨some 29, .move (.val (.bool true)), none, 0⟩, ⟨some 30, .move (.tmp 2), some (29, true), 1⟩, ⟨some 31, .len (.slc 1) (.tmp 30), some (29, true), 3⟩, ⟨some 32, .eq false (.num) (.tmp 31) (.val (.int .i64 0)), some (29, true), 7⟩, ⟨some 33, .pick (.tmp 29) (.tmp 32) (.val (.bool false)), none, 15⟩, ⟨some 34, .move (.tmp 33), none, 31⟩, ⟨some 35, .move (.tmp 3), some (34, true), 63⟩, ⟨some 36, .len (.slc 1) (.tmp 35), some (34, true), 127⟩, ⟨some 37, .eq false (.num) (.tmp 36) (.val (.int .i64 0)), some (34, true), 255⟩, ⟨some 38, .pick (.tmp 34) (.tmp 37) (.val (.bool false)), none, 511⟩, ⟨some 39, .move (.tmp 38), none, 1023⟩, ⟨some 40, .move (.tmp 4), some (39, true), 2047⟩, ⟨some 41, .eq false (.num) (.tmp 40) (.val (.int .i64 91)), some (39, true), 4095⟩, ⟨some 42, .pick (.tmp 39) (.tmp 41) (.val (.bool false)), none, 8191⟩, ⟨some 43, .move (.tmp 42), none, 16383⟩, ⟨some 44, .move (.tmp 5), some (43, true), 32767⟩, ⟨some 45, .eq false (.num) (.tmp 44) (.val (.int .i64 91)), some (43, true), 65535⟩, ⟨some 46, .pick (.tmp 43) (.tmp 45) (.val (.bool false)), none, 131071⟩, ⟨some 47, .move (.tmp 46), none, 262143⟩, ⟨some 48, .move (.tmp 6), some (47, true), 524287⟩, ⟨some 49, .eq false (.num) (.tmp 48) (.val (.int .i64 92)), some (47, true), 1048575⟩, ⟨some 50, .pick (.tmp 47) (.tmp 49) (.val (.bool false)), none, 2097151⟩, ⟨some 51, .move (.tmp 50), none, 4194303⟩, ⟨some 52, .move (.tmp 7), some (51, true), 8388607⟩, ⟨some 53, .eq false (.num) (.tmp 52) (.val (.int .i64 0)), some (51, true), 16777215⟩, ⟨some 54, .pick (.tmp 51) (.tmp 53) (.val (.bool false)), none, 33554431⟩, ⟨some 55, .move (.tmp 54), none, 67108863⟩, ⟨some 56, .move (.tmp 8), some (55, true), 134217727⟩, ⟨some 57, .eq false (.num) (.tmp 56) (.val (.int .i64 92)), some (55, true), 268435455⟩, ⟨some 58, .pick (.tmp 55) (.tmp 57) (.val (.bool false)), none, 536870911⟩, ⟨some 59, .move (.tmp 58), none, 1073741823⟩, ⟨some 60, .call true 38 8 [(.val (.int .i64 40))], some (59, true), 2147483647⟩, ⟨some 61, .eq false (.num) (.tmp 60) (.val (.int .i64 1)), some (59, true), 4294967295⟩, ⟨some 62, .pick (.tmp 59) (.tmp 61) (.val (.bool false)), none, 8589934591⟩, ⟨some 63, .move (.tmp 62), none, 17179869183⟩, ⟨some 64, .call true 38 8 [(.val (.int .i64 41))], some (63, true), 34359738367⟩, ⟨some 65, .eq false (.num) (.tmp 64) (.val (.int .i64 2)), some (63, true), 68719476735⟩, ⟨some 66, .pick (.tmp 63) (.tmp 65) (.val (.bool false)), none, 137438953471⟩, ⟨some 67, .move (.tmp 66), none, 274877906943⟩, ⟨some 68, .call true 38 8 [(.val (.int .i64 (-1)))], some (67, true), 549755813887⟩, ⟨some 69, .eq false (.num) (.tmp 68) (.val (.int .i64 0)), some (67, true), 1099511627775⟩, ⟨some 70, .pick (.tmp 67) (.tmp 69) (.val (.bool false)), none, 2199023255551⟩, ⟨some 71, .move (.tmp 70), none, 4398046511103⟩, ⟨some 72, .call true 38 8 [(.val (.int .i64 65537))], some (71, true), 8796093022207⟩, ⟨some 73, .eq false (.num) (.tmp 72) (.val (.int .i64 0)), some (71, true), 17592186044415⟩, ⟨some 74, .pick (.tmp 71) (.tmp 73) (.val (.bool false)), none, 35184372088831⟩, ⟨some 75, .move (.tmp 74), none, 70368744177663⟩, ⟨some 76, .call true 38 8 [(.val (.int .i64 65536))], some (75, true), 140737488355327⟩, ⟨some 77, .eq false (.num) (.tmp 76) (.val (.int .i64 1366)), some (75, true), 281474976710655⟩, ⟨some 78, .pick (.tmp 75) (.tmp 77) (.val (.bool false)), none, 562949953421311⟩, ⟨some 0, .assign (.tmp 78), none, 1125899906842623⟩] false) (.ret)))))))))
abbrev v7 : VFunc := { nparams := 0, ntmps := 79, nsites := 8, results := [.tmp 0], body := b7 }
/-! ### the law of the names -/
def es2 : List (List Nat) := List.replicate 2 zero64
def es2B : List (List Nat) := [(0, alC 1 0 (List.replicate 40 0))].foldl wr es2
section
variable {G : VProg}
theorem reelNames (hG : G 7 = some (.code v7)) (R : Reel G) (hA : lim G 33 [] [] = some (.bool true, []))
    (hC : ∀ n : Int, lim G 38 [.int .i64 n] [] = some (.int .i64 (if n < 0 ∨ 65536 < n then 0 else (cellsN (flen n.toNat) : Nat)), [])) : Vq.lim G 7 [] [] = some (.bool true, []) := by
  have lr : LR (-1) := by unfold LR; omega
  have t0 : lim G 13 [.int .i64 2] [] = some (q0, [plateO es2 false [] false (-1)]) := R.new 2
  have pw2 : PW es2 [] := PW.of (by decide +kernel) (by decide) (by decide +kernel) (by decide)
  have t1 := R.opn es2 false [] false (-1) pw2
  have e1 : openR es2 [] = (1, []) := by decide +kernel
  have z8 : decide (0 < es2.length / 2) = true := by decide +kernel
  rw [e1, z8] at t1
  simp only [Bool.or_true, openRV] at t1
  have t2 := R.add 1 0 0 false [] es2 true [] false (-1) (by decide) (fun h => by cases h) (by decide) (by decide) (by decide) (by decide +kernel) lr (by decide)
  have e2 : addR 1 0 0 false [] es2 true [] false (-1) = (.int .i64 91, [reelO 1 1 0 0 false, plateO es2 true [] false (-1)]) := by kernel_rfl
  rw [e2] at t2
  have t3 := R.flush 1 0 0 false es2 true [] false (-1) (by decide +kernel) (by decide +kernel) (by decide) lr
  have t3' : lim G 37 [q0] [reelO 1 1 0 0 false, plateO es2 true [] false (-1)] = some ((V.int .i64 91), [reelO 1 1 0 0 false, plateO es2 true [] false (-1)]) := t3
  have t4 := R.beg 1 0 0 false (List.replicate 41 0) es2 true [] false (-1) (by decide) (by decide) (by decide) pw2 lr (by decide)
  have e4 : beginR 1 0 0 false (List.replicate 41 0) es2 true [] false (-1) = (.int .i64 92, [reelO 1 1 0 0 false, plateO es2 true [] false (-1)]) := by kernel_rfl
  rw [e4] at t4
  have t5 := R.beg 1 0 0 false (List.replicate 40 0) es2 true [] false (-1) (by decide) (by decide) (by decide) pw2 lr (by decide)
  obtain ⟨es', hes⟩ : ∃ es' : List (List Nat), beginR 1 0 0 false (List.replicate 40 0) es2 true [] false (-1) = (.int .i64 0, [reelO 1 0 1 1 true, plateO es' false [] false (-1)]) ∧ es'.length = 2 := ⟨es2B, by kernel_rfl, by decide +kernel⟩
  rw [hes.1] at t5
  have t6 := R.add 0 1 1 true [] es' false [] false (-1) (by decide) (fun _ => by decide) (by decide) (by decide) (by decide) (by rw [hes.2]; decide) lr (by decide)
  have e6 : addR 0 1 1 true [] es' false [] false (-1) = (.int .i64 92, [reelO 1 0 1 1 true, plateO es' false [] false (-1)]) := by
    unfold addR
    rw [hes.2, if_neg (by simp)]
    exact if_pos (by decide +kernel)
  rw [e6] at t6
  have c1 := hC 40
  have c2 := hC 41
  have c3 := hC (-1)
  have c4 := hC 65537
  have c5 := hC 65536
  have d1 : (if (40 : Int) < 0 ∨ 65536 < (40 : Int) then (0 : Int) else ((cellsN (flen (40 : Int).toNat) : Nat) : Int)) = (1 : Int) := by decide +kernel
  have d2 : (if (41 : Int) < 0 ∨ 65536 < (41 : Int) then (0 : Int) else ((cellsN (flen (41 : Int).toNat) : Nat) : Int)) = (2 : Int) := by decide +kernel
  have d3 : (if (-1 : Int) < 0 ∨ 65536 < (-1 : Int) then (0 : Int) else ((cellsN (flen (-1 : Int).toNat) : Nat) : Int)) = (0 : Int) := by decide +kernel
  have d4 : (if (65537 : Int) < 0 ∨ 65536 < (65537 : Int) then (0 : Int) else ((cellsN (flen (65537 : Int).toNat) : Nat) : Int)) = (0 : Int) := by decide +kernel
  have d5 : (if (65536 : Int) < 0 ∨ 65536 < (65536 : Int) then (0 : Int) else ((cellsN (flen (65536 : Int).toNat) : Nat) : Int)) = (1366 : Int) := by decide +kernel
  rw [d1] at c1
  rw [d2] at c2
  rw [d3] at c3
  rw [d4] at c4
  rw [d5] at c5
  have r41 : List.replicate 41 (V.int .u8 0) = byN (List.replicate 41 0) := byN_rep 41
  have r40 : List.replicate 40 (V.int .u8 0) = byN (List.replicate 40 0) := byN_rep 40
  obtain ⟨z41, h41⟩ : ∃ a, a = byN (List.replicate 41 0) := ⟨_, rfl⟩
  obtain ⟨z40, h40⟩ : ∃ a, a = byN (List.replicate 40 0) := ⟨_, rfl⟩
  rw [← h41] at t4 r41
  rw [← h40] at t5 r40
  obtain ⟨a8, h8⟩ : ∃ a, a = es2 := ⟨_, rfl⟩
  rw [← h8] at t0 t1 t2 t3' t4 t5
  have t2' : lim G 36 [q0, .isl 0 1 []] [reelO 1 1 0 0 false, plateO a8 true [] false (-1)] = some ((V.int .i64 91), [reelO 1 1 0 0 false, plateO a8 true [] false (-1)]) := t2
  have t6' : lim G 36 [q0, .isl 0 1 []] [reelO 1 0 1 1 true, plateO es' false [] false (-1)] = some ((V.int .i64 92), [reelO 1 0 1 1 true, plateO es' false [] false (-1)]) := t6
  have n41 : z41.length = 41 := by rw [h41, byN_len]; simp
  have n40 : z40.length = 40 := by rw [h40, byN_len]; simp
  clear t2 t3 t6 e1 e2 e4 e6 hes d1 d2 d3 d4 d5 z8 pw2 lr h8 h40 h41 hC R
  have F := And.intro r40 r41
  exact lim_fun hG (h := runV F trivial trivial)
end
end P1
end Go.Vq

namespace Go.Proofs.Ytbbpandancpibaa.reelNames
open Go.ChangeShapes Go.WideShapes Go.ChangeAt Go.RowKit
theorem own : ownKnob Try.prog.godebug = none := by kernel_rfl
noncomputable def G1 : Vq.VProg := Vq.vprog Try.prog ap ib keeps prims
theorem g1_ok : Vq.GOk Try.prog G1 := Vq.vprog_ok prims_ok
theorem g1_51 : G1 51 = some (.prim (Vq.clonePrim 1 1)) := rfl
theorem g1_80 : G1 80 = some (.iter (Vq.backwardI true 65)) := rfl
theorem g1_88 : G1 88 = some (.iter (Vq.backwardI false 1)) := rfl
theorem g1_85 : G1 85 = some (.iter (Vq.chunkI 1)) := rfl
theorem clone (es : List Vq.V) (h : es.length ≤ 140737488355328) : Vq.lim G1 51 [.isl 0 1 es] [] = some (.xsl 0 1 es, []) := Vq.lim_prim g1_51 (by simp [Vq.clonePrim, h])
theorem marks : Vq.P1.Marks G1 := Vq.P1.marks_ok G1 clone (by kernel_rfl) (by kernel_rfl) (by kernel_rfl) (by kernel_rfl) (by kernel_rfl) (by kernel_rfl) g1_80 (by kernel_rfl) (by kernel_rfl) g1_88 (by kernel_rfl) (by kernel_rfl) (by kernel_rfl) (by kernel_rfl) (by kernel_rfl) (by kernel_rfl) (by kernel_rfl) (by kernel_rfl)
theorem halves (n : Nat) (hn : n < 2 ^ 32) : Vq.lim G1 84 [.int .u32 n, .int .i64 8] [] = some (.int .u32 (Vq.P1.halN 8 n : Nat), []) := Vq.P1.halves G1 (by kernel_rfl) n hn
theorem of1 (l : List Nat) (hl : l.length < 2 ^ 40) (hb : ∀ x ∈ l, x < 256) : Vq.lim G1 74 [.isl 0 1 [.isl 0 1 (Vq.byN l)]] [] = some (.int .u32 (Vq.P1.crc l : Nat), []) := Vq.P1.of1 G1 (by kernel_rfl) halves l hl hb
theorem number (l : List Nat) (hl : l.length < 2 ^ 40) (hb : ∀ x ∈ l, x < 256) : Vq.lim G1 82 [.isl 0 1 (Vq.byN l), .int .u64 65536] [] = some (.tup [.int .u64 (Vq.P1.dec 65536 0 0 l).1, .int .i64 (Vq.P1.dec 65536 0 0 l).2], []) := Vq.P1.number G1 (by kernel_rfl) l 65536 hl hb (by decide)
theorem opens (b : List Nat) (hb : ∀ x ∈ b, x < 256) (hl : b.length < 2 ^ 31) : Vq.lim G1 71 [.isl 0 1 (Vq.byN b)] [] = some (Vq.P1.openV (Vq.P1.openN b), []) := Vq.P1.Open G1 (by kernel_rfl) number of1 clone b hb hl
theorem frame (k : Nat) (hk : k < 256) (body : List Nat) (hb : ∀ x ∈ body, x < 256) (hl : body.length ≤ 65536) : Vq.lim G1 62 [.agg [.int .u8 k, .isl 0 1 (Vq.byN body)]] [] = some (.tup [.fsl 0 1 (Vq.byN (Vq.P1.frameN k body)), .int .i64 0], []) :=
  Vq.P1.Frame G1 (by kernel_rfl) (fun b ns hn hl hb => Vq.P1.Number G1 (by kernel_rfl) clone b ns hn hl hb) of1 k hk body hb hl
theorem cells (n : Nat) (h : n < 2 ^ 40) : Vq.lim G1 63 [.int .i64 n] [] = some (.int .i64 (Vq.P1.cellsN n : Nat), []) := Vq.P1.rcells G1 (by kernel_rfl) n h
theorem concat (ls : List (List Nat)) (h1 : ls.length < 2 ^ 40) (h2 : ls.flatten.length < 2 ^ 40) : Vq.lim G1 72 [.isl 0 1 (ls.map Vq.P1.iB)] [] = some (.xsl 0 1 (Vq.byN ls.flatten), []) := Vq.P1.concat G1 (by kernel_rfl) (fun n hn => Vq.P1.grow0 G1 (by kernel_rfl) n hn) ls h1 h2
theorem flush : Vq.P1.HFlush G1 := fun es fz ls off left he hw hb hl => Vq.P1.flush G1 (by kernel_rfl) (Vq.P1.spend G1 (by kernel_rfl)) es fz ls off left he hw hb hl
theorem hput : Vq.P1.HPut G1 := fun s r a b rs rr ra rb es fz ls off left hs hr ha hn hb hl hls => Vq.P1.rputR G1 (by kernel_rfl) g1_85 (fun es n hn => Vq.P1.chunkC G1 (by kernel_rfl) es n hn) marks s r a b rs rr ra rb es fz ls off left hs hr ha hn hb hl hls
theorem leftC : ∀ (s r a : Nat) (b : Bool) es fz ls off left (_ : es.length < 2 ^ 40) (_ : a < 2 ^ 40), Vq.lim G1 39 [Vq.P1.q0] [Vq.P1.reelO 1 s r a b, Vq.P1.plateO es fz ls off left] = some (.int .i64 (Vq.P1.leftN es.length a b), [Vq.P1.reelO 1 s r a b, Vq.P1.plateO es fz ls off left]) :=
  fun s r a b es fz ls off left hn ha => Vq.P1.rleft G1 (by kernel_rfl) marks.room s r a b es fz ls off left hn ha
theorem reel : Vq.P1.Reel G1 where
  new := fun n => Vq.P1.pnew G1 (by kernel_rfl) n
  opn := fun es fz ls off left h => Vq.P1.ropen G1 (by kernel_rfl) (fun s hs es fz ls off left h => Vq.P1.rside G1 (by kernel_rfl) marks concat opens cells s hs es fz ls off left h) es fz ls off left h
  beg := fun s r a rd body es fz ls off left hs hb hl h hlr hls => Vq.P1.rbegin G1 (by kernel_rfl) marks frame hput flush cells s r a rd body es fz ls off left hs hb hl h hlr hls
  add := fun s r a rd body es fz ls off left hs hr ha hb hl hn hlr hls => Vq.P1.radd G1 (by kernel_rfl) frame hput leftC cells s r a rd body es fz ls off left hs hr ha hb hl hn hlr hls
  flush := fun s r a b es fz ls off left he hw hl hlr => Vq.P1.rflushR G1 (by kernel_rfl) flush s r a b es fz ls off left he hw hl hlr
  ready := fun s r a b es fz ls off left => Vq.P1.rready G1 (by kernel_rfl) s r a b es fz ls off left
  left := leftC
theorem alive : Vq.lim G1 33 [] [] = some (.bool true, []) := Vq.P1.reelAlive (by kernel_rfl) reel

theorem runs : Vq.lim G1 7 [] [] = some (.bool true, []) :=
  Vq.P1.reelNames (by kernel_rfl) reel alive (Vq.P1.rCells G1 (by kernel_rfl) cells frame)

theorem walk (w : World) : Calls Try.prog 7 #[] w fun e w' => e = .returned (.bool true) ∧ Vq.Still w w' := by
  obtain ⟨_, hrun⟩ := Vq.lim_ev runs
  exact Vq.true_walk g1_ok (hrun _ (Nat.le_refl _)) w

set_option maxRecDepth 100000 in
theorem lifted (os : Os) (started : os.Started) (H : Type) (enc : TypeId × Value → H) :
    ReturnsInHanded {} Try.checked os 7 .any (Rows.reelNamesSpec.pre6 enc Try.prog Try.f7 Rows.reelNamesRow.domain false) (Rows.reelNamesSpec.post enc Try.prog Try.f7 false true false false) := by
  refine returnsInHanded_of_change (C := Try.checked) own started (by kernel_rfl) Try.func7
    (ChangeSpec.witness6 (enc := enc) (C := Try.checked) false ⟨#[], #[], []⟩ 8 (by kernel_rfl) (by kernel_rfl) (by kernel_rfl) (by kernel_rfl)) ?_
  intro W base args ds gs before hval0 hW hcnd _
  have hval : ∀ (j : Nat) t v, Try.f7.params[j]? = some t → args[j]? = some v → Value.okWide Try.prog W .any base t v := hval0
  have hW' := hW
  obtain ⟨p, q, hA0, hV, rfl, hfz, hnd⟩ := hW
  have hA : DataW.TrodAll enc Try.prog W 0 (fun _ => true) true Try.f7.params.toList args.toList ds p := hA0
  rw [Try.params7] at hA hval
  obtain ⟨rfl, rfl, rfl⟩ := trodAll_none hA
  obtain ⟨rfl, rfl⟩ := trodVars_none hV
  clear hA0 hval0
  simp only [List.append_nil] at hW'
  refine (walk  W).mono fun e W' ⟨he, hg⟩ => ?_
  subst he
  exact ⟨_, rfl, Vq.post_still (pa := []) (pv := []) hW' (fun _ _ _ => (trodAll_cons_mk (shut_bool Try.underlying4 _) trodAll_mk0)) (fun sp _ => rfl) (fun _ _ => rfl) rfl
    hg (ok_one (by kernel_rfl) rfl (okWide_bool_mk Try.underlying4 _))⟩

theorem over : Rows.reelNamesRow.holds Try.pinned (OpenSpec.ofChange Rows.reelNamesSpec) :=
  OpenClaim.holds_of_wide 7 Try.f7 rfl rfl rfl rfl rfl rfl rfl ⟨rfl, rfl, rfl, rfl, rfl⟩ rfl rfl rfl rfl rfl (by kernel_rfl) Try.func7 (by kernel_rfl)
    (of_decide_eq_true (by kernel_rfl)) (by unfold Func.isWrapper; first | (rw [if_pos (by decide +kernel)]; kernel_rfl) | (rw [if_neg (by decide +kernel)]; exact ⟨rfl, rfl⟩))
    (fun os started H enc _ => lifted os started H enc)

/-- ████ THE STATEMENT ████ -/
theorem proved : Rows.ReelNamesSaid :=
  over
#print axioms proved
end Go.Proofs.Ytbbpandancpibaa.reelNames
