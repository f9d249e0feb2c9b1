/- Proved: PacketWrites answers true for any arguments, whatever the world it is called in; no condition. -/
import Derived.Test.YtigbpkocmklbpaaRows
import Derived.Test.YtigbpkocmklbpaaK
import Derived.Test.YtigbpkocmklbpaaB3
import Derived.WalkKit
import Derived.ProofKit
import Derived.OpenShut
import Derived.ShutString
set_option linter.unusedVariables false
set_option linter.unusedSimpArgs false
namespace Go.Proofs.Ytigbpkocmklbpaa.packetWrites
open Go.ChangeShapes Go.WideShapes Go.ChangeAt Go.RowKit
theorem own : ownKnob Try.prog.godebug = none := by kernel_rfl
/-- The program with the alive law run already. -/
noncomputable def G1 : Vq.VProg := Vq.vprog Try.prog ap ib keeps (Vq.more prims 31 (.prim Vq.truePrim))
theorem alive : Vq.isTrue (Vq.call G 200 31 [] []) = true := by kernel_rfl
theorem g1_ok : Vq.GOk Try.prog G1 := Vq.vprog_ok (Vq.more_ok prims_ok (Vq.truePrim_ok (Vq.vprog_ok prims_ok) alive))
theorem g1_31 : G1 31 = some (.prim Vq.truePrim) := rfl
theorem g1_53 : G1 53 = some (.prim (Vq.clonePrim 1 1)) := rfl
theorem g1_11 : G1 11 = some (.code Vq.S5.v11) := by kernel_rfl
theorem g1_35 : G1 35 = some (.code Vq.S2.v35) := by kernel_rfl
theorem g1_36 : G1 36 = some (.code Vq.S5.v36) := by kernel_rfl
theorem g1_37 : G1 37 = some (.code Vq.S5.v37) := by kernel_rfl
theorem g1_38 : G1 38 = some (.code Vq.S5.v38) := by kernel_rfl
theorem runs (us : List Vq.V) (h : Vq.HasTs Try.prog [24, 74, 75] us) : Vq.call G1 60 11 us [] = some (.bool true, []) := by
  obtain ⟨v0, us, rfl, h0, h⟩ := h.inv
  obtain ⟨v1, us, rfl, h1, h⟩ := h.inv
  obtain ⟨v2, us, rfl, h2, h⟩ := h.inv
  obtain rfl := h.inv_nil
  obtain ⟨bs, rfl, _⟩ := h0.ints Try.underlying24 Try.underlying5 (by kernel_rfl)
  obtain ⟨ns, rfl, hw⟩ := h1.ints Try.underlying74 Try.underlying71 (by kernel_rfl)
  obtain ⟨ss, rfl, _⟩ := h2.strs Try.underlying75 Try.underlying9 (by kernel_rfl)
  refine Vq.S7.all11 G1 g1_11 0 (fun m _ => Vq.call_prim g1_31) g1_35 g1_36 g1_37 g1_38 (fun m es he => by rw [Vq.call_prim g1_53]; simp [Vq.clonePrim, he]) bs ns ss (fun n hn => ?_) 60 (by omega)
  have := hw n hn
  simp [Lit.wf, IntKind.min, IntKind.max, IntKind.signed, IntKind.bits] at this
  omega

/-! ### the row's step -/
theorem types : Try.f11.params.toList = [24, 74, 75] := by kernel_rfl
theorem argsOk : ((Try.f11.params.toList).all fun t => Vq.argT Try.prog 8 true t) = true := by kernel_rfl
set_option maxRecDepth 100000 in
theorem lifted (os : Os) (started : os.Started) (H : Type) (enc : TypeId × Value → H) :
    ReturnsInHanded {} Try.checked os 11 .any (Rows.packetWritesSpec.pre6 enc Try.prog Try.f11 Rows.packetWritesRow.domain false) (Rows.packetWritesSpec.post enc Try.prog Try.f11 false true false false) := by
  refine returnsInHanded_of_change (C := Try.checked) own started (by kernel_rfl) Try.func11
    (ChangeSpec.witness6 (enc := enc) (C := Try.checked) false ⟨#[], #[.slice none 0 0, .slice none 0 0, .slice none 0 0], []⟩ 8 (by kernel_rfl) (by kernel_rfl) (by kernel_rfl) (by kernel_rfl)) ?_
  intro W base args ds gs before hval0 hW hcnd _
  have hval : ∀ (j : Nat) t v, Try.f11.params[j]? = some t → args[j]? = some v → Value.okWide Try.prog W .any base t v := hval0
  have hW' := hW
  obtain ⟨p, q, hA0, hV, rfl, hfz, hnd⟩ := hW
  have hA : DataW.TrodAll enc Try.prog W 0 (fun _ => true) true Try.f11.params.toList args.toList ds p := hA0
  obtain ⟨us, ha, ht⟩ := Vq.args_rel (fun t ht => ⟨8, List.all_eq_true.1 argsOk t ht⟩) hA (fun j t v h1 h2 => hval j t v (by simpa using h1) (by simpa using h2))
  rw [types] at ht
  refine (Vq.true_walk_args (xs := args.toList) g1_ok (runs us ht) W ha).mono fun e W' ⟨he, hg⟩ => ?_
  subst he
  exact ⟨_, rfl, Vq.post_args (tb := 4) 8 hW' hg argsOk rfl (fun l hl => by
    have hl' : l.length = [24, 74, 75].length := by rw [← types]; simpa using hl
    clear hl
    match l, hl' with
    | [d0, d1, d2], _ => rfl) (by kernel_rfl) Try.underlying4⟩

theorem over : Rows.packetWritesRow.holds Try.pinned (OpenSpec.ofChange Rows.packetWritesSpec) :=
  OpenClaim.holds_of_wide 11 Try.f11 rfl rfl rfl rfl rfl rfl rfl ⟨rfl, rfl, rfl, rfl, rfl⟩ rfl rfl rfl rfl rfl (by kernel_rfl) Try.func11 (by kernel_rfl)
    (of_decide_eq_true (by kernel_rfl)) (by unfold Func.isWrapper; first | (rw [if_pos (by decide +kernel)]; kernel_rfl) | (rw [if_neg (by decide +kernel)]; exact ⟨rfl, rfl⟩))
    (fun os started H enc _ => lifted os started H enc)

/-- ████ THE STATEMENT ████ -/
theorem proved : Rows.PacketWritesSaid :=
  over
#print axioms proved
end Go.Proofs.Ytigbpkocmklbpaa.packetWrites
