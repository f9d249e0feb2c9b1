/- Proved: PacketFrames answers true for any arguments, whatever the world it is called in; no condition. -/
import Derived.Test.YtigbpkocmklbpaaRows
import Derived.Test.YtigbpkocmklbpaaK
import Derived.Test.YtigbpkocmklbpaaC5
import Derived.WalkKit
import Derived.ProofKit
import Derived.OpenShut
import Derived.ShutString
set_option linter.unusedVariables false
set_option linter.unusedSimpArgs false
namespace Go.Proofs.Ytigbpkocmklbpaa.packetFrames
open Go.ChangeShapes Go.WideShapes Go.ChangeAt Go.RowKit
theorem own : ownKnob Try.prog.godebug = none := by kernel_rfl
/-- The program with the alive law run already. -/
noncomputable def G1 : Vq.VProg := Vq.vprog Try.prog ap ib keeps (Vq.more prims 31 (.prim Vq.truePrim))
theorem alive : Vq.isTrue (Vq.call G 200 31 [] []) = true := by kernel_rfl
theorem g1_ok : Vq.GOk Try.prog G1 := Vq.vprog_ok (Vq.more_ok prims_ok (Vq.truePrim_ok (Vq.vprog_ok prims_ok) alive))
theorem g1_31 : G1 31 = some (.prim Vq.truePrim) := rfl
theorem g1_53 : G1 53 = some (.prim (Vq.clonePrim 1 1)) := rfl
theorem g1_8 : G1 8 = some (.code Vq.S15.v8) := by kernel_rfl
theorem g1_32 : G1 32 = some (.code Vq.S8.v32) := by kernel_rfl
theorem g1_33 : G1 33 = some (.code Vq.S8.v33) := by kernel_rfl
theorem g1_34 : G1 34 = some (.code Vq.S11.v34) := by kernel_rfl
theorem g1_35 : G1 35 = some (.code Vq.S2.v35) := by kernel_rfl
theorem g1_36 : G1 36 = some (.code Vq.S5.v36) := by kernel_rfl
theorem g1_49 : G1 49 = some (.code Vq.S8.v49) := by kernel_rfl
theorem g1_50 : G1 50 = some (.code Vq.S8.v50) := by kernel_rfl
theorem g1_51 : G1 51 = some (.code Vq.S8.v51) := by kernel_rfl
theorem g1_52 : G1 52 = some (.code Vq.S11.v52) := by kernel_rfl
theorem g1_55 : G1 55 = some (.code Vq.S8.v55) := by kernel_rfl
theorem g1_56 : G1 56 = some (.code Vq.S8.v56) := by kernel_rfl
theorem runs (us : List Vq.V) (h : Vq.HasTs Try.prog [61, 24] us) : Vq.call G1 5000 8 us [] = some (.bool true, []) := by
  obtain ⟨v0, us, rfl, h0, h⟩ := h.inv
  obtain ⟨v1, us, rfl, h1, h⟩ := h.inv
  obtain rfl := h.inv_nil
  obtain ⟨cs, rfl, hc⟩ := h0.agg (by kernel_rfl)
  obtain ⟨c2, w2, rfl, hc2, hn2⟩ := hc.inv_struct Try.underlying61
  obtain rfl := hn2.inv_nil
  have hc3 : Vq.HasC Try.prog [5, 24] c2 := hc2
  obtain ⟨k, c4, rfl, hk, hc4⟩ := hc3.inv_int Try.underlying5
  obtain ⟨es, w5, rfl, _, hes, hn5⟩ := hc4.inv_slice Try.underlying24
  obtain rfl := hn5.inv_nil
  rw [show Try.prog.cellsOf 5 = 1 by kernel_rfl]
  obtain ⟨bs, rfl, hbs⟩ := Vq.mapx (f := Vq.V.int .u8) fun x hx => (hes x hx).int Try.underlying5
  obtain ⟨hs, rfl, hhs⟩ := h1.ints Try.underlying24 Try.underlying5 (by kernel_rfl)
  obtain ⟨bl, e1, hb⟩ := Vq.S16.bytes_nat bs hbs
  obtain ⟨bh, e2, hh⟩ := Vq.S16.bytes_nat hs hhs
  rw [e1, e2]
  have hk' : 0 ≤ k ∧ k < 256 := by
    simp [Lit.wf, IntKind.min, IntKind.max, IntKind.signed, IntKind.bits] at hk
    omega
  obtain ⟨k, rfl⟩ : ∃ n : Nat, k = n := ⟨k.toNat, by omega⟩
  exact Vq.S16.all8 G1 g1_8 (fun m => Vq.call_prim g1_31) g1_32 g1_33 g1_34 g1_35 g1_36 g1_49 g1_50 g1_51 g1_52 g1_55 g1_56 (fun m es he => by rw [Vq.call_prim g1_53]; simp [Vq.clonePrim, he]) k bl bh (by omega) hb hh 5000 (by omega)

/-! ### the row's step -/
theorem types : Try.f8.params.toList = [61, 24] := by kernel_rfl
theorem argsOk : ((Try.f8.params.toList).all fun t => Vq.argT Try.prog 8 true t) = true := by kernel_rfl
set_option maxRecDepth 100000 in
theorem lifted (os : Os) (started : os.Started) (H : Type) (enc : TypeId × Value → H) :
    ReturnsInHanded {} Try.checked os 8 .any (Rows.packetFramesSpec.pre6 enc Try.prog Try.f8 Rows.packetFramesRow.domain false) (Rows.packetFramesSpec.post enc Try.prog Try.f8 false true false false) := by
  refine returnsInHanded_of_change (C := Try.checked) own started (by kernel_rfl) Try.func8
    (ChangeSpec.witness6 (enc := enc) (C := Try.checked) false ⟨#[], #[.agg #[.int .u8 0, .slice none 0 0], .slice none 0 0], []⟩ 8 (by kernel_rfl) (by kernel_rfl) (by kernel_rfl) (by kernel_rfl)) ?_
  intro W base args ds gs before hval0 hW hcnd _
  have hval : ∀ (j : Nat) t v, Try.f8.params[j]? = some t → args[j]? = some v → Value.okWide Try.prog W .any base t v := hval0
  have hW' := hW
  obtain ⟨p, q, hA0, hV, rfl, hfz, hnd⟩ := hW
  have hA : DataW.TrodAll enc Try.prog W 0 (fun _ => true) true Try.f8.params.toList args.toList ds p := hA0
  obtain ⟨us, ha, ht⟩ := Vq.args_rel (fun t ht => ⟨8, List.all_eq_true.1 argsOk t ht⟩) hA (fun j t v h1 h2 => hval j t v (by simpa using h1) (by simpa using h2))
  rw [types] at ht
  refine (Vq.true_walk_args (xs := args.toList) g1_ok (runs us ht) W ha).mono fun e W' ⟨he, hg⟩ => ?_
  subst he
  exact ⟨_, rfl, Vq.post_args (tb := 4) 8 hW' hg argsOk rfl (fun l hl => by
    have hl' : l.length = [61, 24].length := by rw [← types]; simpa using hl
    clear hl
    match l, hl' with
    | [d0, d1], _ => rfl) (by kernel_rfl) Try.underlying4⟩

theorem over : Rows.packetFramesRow.holds Try.pinned (OpenSpec.ofChange Rows.packetFramesSpec) :=
  OpenClaim.holds_of_wide 8 Try.f8 rfl rfl rfl rfl rfl rfl rfl ⟨rfl, rfl, rfl, rfl, rfl⟩ rfl rfl rfl rfl rfl (by kernel_rfl) Try.func8 (by kernel_rfl)
    (of_decide_eq_true (by kernel_rfl)) (by unfold Func.isWrapper; first | (rw [if_pos (by decide +kernel)]; kernel_rfl) | (rw [if_neg (by decide +kernel)]; exact ⟨rfl, rfl⟩))
    (fun os started H enc _ => lifted os started H enc)

/-- ████ THE STATEMENT ████ -/
theorem proved : Rows.PacketFramesSaid :=
  over
#print axioms proved
end Go.Proofs.Ytigbpkocmklbpaa.packetFrames
