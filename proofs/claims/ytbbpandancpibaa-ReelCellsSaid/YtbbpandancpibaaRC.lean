/- Proved: ReelCells answers true for any arguments, whatever the world it is called in; no condition. -/
import Derived.Test.YtbbpandancpibaaRows
import Derived.Test.YtbbpandancpibaaK
import Derived.Test.YtbbpandancpibaaF23
import Derived.WalkKit
import Derived.ProofKit
import Derived.OpenShut
import Derived.ShutString
set_option linter.unusedVariables false
set_option linter.unusedSimpArgs false
namespace Go.Proofs.Ytbbpandancpibaa.reelCells
open Go.ChangeShapes Go.WideShapes Go.ChangeAt Go.RowKit
theorem own : ownKnob Try.prog.godebug = none := by kernel_rfl
noncomputable def G1 : Vq.VProg := Vq.vprog Try.prog ap ib keeps prims
theorem g1_ok : Vq.GOk Try.prog G1 := Vq.vprog_ok prims_ok
theorem g1_51 : G1 51 = some (.prim (Vq.clonePrim 1 1)) := rfl
theorem g1_80 : G1 80 = some (.iter (Vq.backwardI true 65)) := rfl
theorem g1_88 : G1 88 = some (.iter (Vq.backwardI false 1)) := rfl
theorem g1_85 : G1 85 = some (.iter (Vq.chunkI 1)) := rfl
theorem clone (es : List Vq.V) (h : es.length ≤ 140737488355328) : Vq.lim G1 51 [.isl 0 1 es] [] = some (.xsl 0 1 es, []) := Vq.lim_prim g1_51 (by simp [Vq.clonePrim, h])
theorem marks : Vq.P1.Marks G1 := Vq.P1.marks_ok G1 clone (by kernel_rfl) (by kernel_rfl) (by kernel_rfl) (by kernel_rfl) (by kernel_rfl) (by kernel_rfl) g1_80 (by kernel_rfl) (by kernel_rfl) g1_88 (by kernel_rfl) (by kernel_rfl) (by kernel_rfl) (by kernel_rfl) (by kernel_rfl) (by kernel_rfl) (by kernel_rfl) (by kernel_rfl)
theorem halves (n : Nat) (hn : n < 2 ^ 32) : Vq.lim G1 84 [.int .u32 n, .int .i64 8] [] = some (.int .u32 (Vq.P1.halN 8 n : Nat), []) := Vq.P1.halves G1 (by kernel_rfl) n hn
theorem of1 (l : List Nat) (hl : l.length < 2 ^ 40) (hb : ∀ x ∈ l, x < 256) : Vq.lim G1 74 [.isl 0 1 [.isl 0 1 (Vq.byN l)]] [] = some (.int .u32 (Vq.P1.crc l : Nat), []) := Vq.P1.of1 G1 (by kernel_rfl) halves l hl hb
theorem number (l : List Nat) (hl : l.length < 2 ^ 40) (hb : ∀ x ∈ l, x < 256) : Vq.lim G1 82 [.isl 0 1 (Vq.byN l), .int .u64 65536] [] = some (.tup [.int .u64 (Vq.P1.dec 65536 0 0 l).1, .int .i64 (Vq.P1.dec 65536 0 0 l).2], []) := Vq.P1.number G1 (by kernel_rfl) l 65536 hl hb (by decide)
theorem opens (b : List Nat) (hb : ∀ x ∈ b, x < 256) (hl : b.length < 2 ^ 31) : Vq.lim G1 71 [.isl 0 1 (Vq.byN b)] [] = some (Vq.P1.openV (Vq.P1.openN b), []) := Vq.P1.Open G1 (by kernel_rfl) number of1 clone b hb hl
theorem frame (k : Nat) (hk : k < 256) (body : List Nat) (hb : ∀ x ∈ body, x < 256) (hl : body.length ≤ 65536) : Vq.lim G1 62 [.agg [.int .u8 k, .isl 0 1 (Vq.byN body)]] [] = some (.tup [.fsl 0 1 (Vq.byN (Vq.P1.frameN k body)), .int .i64 0], []) :=
  Vq.P1.Frame G1 (by kernel_rfl) (fun b ns hn hl hb => Vq.P1.Number G1 (by kernel_rfl) clone b ns hn hl hb) of1 k hk body hb hl
theorem cells (n : Nat) (h : n < 2 ^ 40) : Vq.lim G1 63 [.int .i64 n] [] = some (.int .i64 (Vq.P1.cellsN n : Nat), []) := Vq.P1.rcells G1 (by kernel_rfl) n h
theorem concat (ls : List (List Nat)) (h1 : ls.length < 2 ^ 40) (h2 : ls.flatten.length < 2 ^ 40) : Vq.lim G1 72 [.isl 0 1 (ls.map Vq.P1.iB)] [] = some (.xsl 0 1 (Vq.byN ls.flatten), []) := Vq.P1.concat G1 (by kernel_rfl) (fun n hn => Vq.P1.grow0 G1 (by kernel_rfl) n hn) ls h1 h2
theorem flush : Vq.P1.HFlush G1 := fun es fz ls off left he hw hb hl => Vq.P1.flush G1 (by kernel_rfl) (Vq.P1.spend G1 (by kernel_rfl)) es fz ls off left he hw hb hl
theorem hput : Vq.P1.HPut G1 := fun s r a b rs rr ra rb es fz ls off left hs hr ha hn hb hl hls => Vq.P1.rputR G1 (by kernel_rfl) g1_85 (fun es n hn => Vq.P1.chunkC G1 (by kernel_rfl) es n hn) marks s r a b rs rr ra rb es fz ls off left hs hr ha hn hb hl hls
theorem leftC : ∀ (s r a : Nat) (b : Bool) es fz ls off left (_ : es.length < 2 ^ 40) (_ : a < 2 ^ 40), Vq.lim G1 39 [Vq.P1.q0] [Vq.P1.reelO 1 s r a b, Vq.P1.plateO es fz ls off left] = some (.int .i64 (Vq.P1.leftN es.length a b), [Vq.P1.reelO 1 s r a b, Vq.P1.plateO es fz ls off left]) :=
  fun s r a b es fz ls off left hn ha => Vq.P1.rleft G1 (by kernel_rfl) marks.room s r a b es fz ls off left hn ha
theorem reel : Vq.P1.Reel G1 where
  new := fun n => Vq.P1.pnew G1 (by kernel_rfl) n
  opn := fun es fz ls off left h => Vq.P1.ropen G1 (by kernel_rfl) (fun s hs es fz ls off left h => Vq.P1.rside G1 (by kernel_rfl) marks concat opens cells s hs es fz ls off left h) es fz ls off left h
  beg := fun s r a rd body es fz ls off left hs hb hl h hlr hls => Vq.P1.rbegin G1 (by kernel_rfl) marks frame hput flush cells s r a rd body es fz ls off left hs hb hl h hlr hls
  add := fun s r a rd body es fz ls off left hs hr ha hb hl hn hlr hls => Vq.P1.radd G1 (by kernel_rfl) frame hput leftC cells s r a rd body es fz ls off left hs hr ha hb hl hn hlr hls
  flush := fun s r a b es fz ls off left he hw hl hlr => Vq.P1.rflushR G1 (by kernel_rfl) flush s r a b es fz ls off left he hw hl hlr
  ready := fun s r a b es fz ls off left => Vq.P1.rready G1 (by kernel_rfl) s r a b es fz ls off left
  left := leftC
theorem alive : Vq.lim G1 33 [] [] = some (.bool true, []) := Vq.P1.reelAlive (by kernel_rfl) reel
theorem runs (us : List Vq.V) (h : Vq.HasTs Try.prog [3] us) : Vq.lim G1 8 us [] = some (.bool true, []) := by
  obtain ⟨v0, us, rfl, h0, h⟩ := h.inv
  obtain rfl := h.inv_nil
  obtain ⟨n, rfl, _⟩ := h0.int Try.underlying3
  exact Vq.P1.reelCells G1 (by kernel_rfl) alive (Vq.P1.rCells G1 (by kernel_rfl) cells frame) n

/-! ### the row's step -/
theorem types : Try.f8.params.toList = [3] := by kernel_rfl
theorem argsOk : ((Try.f8.params.toList).all fun t => Vq.argT Try.prog 8 true t) = true := by kernel_rfl
set_option maxRecDepth 100000 in
theorem lifted (os : Os) (started : os.Started) (H : Type) (enc : TypeId × Value → H) :
    ReturnsInHanded {} Try.checked os 8 .any (Rows.reelCellsSpec.pre6 enc Try.prog Try.f8 Rows.reelCellsRow.domain false) (Rows.reelCellsSpec.post enc Try.prog Try.f8 false true false false) := by
  refine returnsInHanded_of_change (C := Try.checked) own started (by kernel_rfl) Try.func8
    (ChangeSpec.witness6 (enc := enc) (C := Try.checked) false ⟨#[], #[.int .i64 0], []⟩ 8 (by kernel_rfl) (by kernel_rfl) (by kernel_rfl) (by kernel_rfl)) ?_
  intro W base args ds gs before hval0 hW hcnd _
  have hval : ∀ (j : Nat) t v, Try.f8.params[j]? = some t → args[j]? = some v → Value.okWide Try.prog W .any base t v := hval0
  have hW' := hW
  obtain ⟨p, q, hA0, hV, rfl, hfz, hnd⟩ := hW
  have hA : DataW.TrodAll enc Try.prog W 0 (fun _ => true) true Try.f8.params.toList args.toList ds p := hA0
  obtain ⟨us, ha, ht⟩ := Vq.args_rel (fun t ht => ⟨8, List.all_eq_true.1 argsOk t ht⟩) hA (fun j t v h1 h2 => hval j t v (by simpa using h1) (by simpa using h2))
  rw [types] at ht
  obtain ⟨_, hrun⟩ := Vq.lim_ev (runs us ht)
  refine (Vq.true_walk_args (xs := args.toList) g1_ok (hrun _ (Nat.le_refl _)) W ha).mono fun e W' ⟨he, hg⟩ => ?_
  subst he
  exact ⟨_, rfl, Vq.post_args (tb := 4) 8 hW' hg argsOk rfl (fun l hl => by
    have hl' : l.length = [3].length := by rw [← types]; simpa using hl
    clear hl
    match l, hl' with
    | [d0], _ => rfl) (by kernel_rfl) Try.underlying4⟩

theorem over : Rows.reelCellsRow.holds Try.pinned (OpenSpec.ofChange Rows.reelCellsSpec) :=
  OpenClaim.holds_of_wide 8 Try.f8 rfl rfl rfl rfl rfl rfl rfl ⟨rfl, rfl, rfl, rfl, rfl⟩ rfl rfl rfl rfl rfl (by kernel_rfl) Try.func8 (by kernel_rfl)
    (of_decide_eq_true (by kernel_rfl)) (by unfold Func.isWrapper; first | (rw [if_pos (by decide +kernel)]; kernel_rfl) | (rw [if_neg (by decide +kernel)]; exact ⟨rfl, rfl⟩))
    (fun os started H enc _ => lifted os started H enc)

/-- ████ THE STATEMENT ████ -/
theorem proved : Rows.ReelCellsSaid :=
  over
#print axioms proved
end Go.Proofs.Ytbbpandancpibaa.reelCells
