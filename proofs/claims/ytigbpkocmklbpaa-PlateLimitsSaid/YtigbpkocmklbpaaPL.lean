/- Proved: PlateLimits answers true for any arguments, whatever the world it is called in; no condition. -/
import Derived.Test.YtigbpkocmklbpaaRows
import Derived.Test.YtigbpkocmklbpaaK
import Derived.Test.YtigbpkocmklbpaaL8
import Derived.WalkKit
import Derived.ProofKit
import Derived.OpenShut
import Derived.ShutString
set_option linter.unusedVariables false
set_option linter.unusedSimpArgs false
namespace Go.Proofs.Ytigbpkocmklbpaa.plateLimits
open Go.ChangeShapes Go.WideShapes Go.ChangeAt Go.RowKit
theorem own : ownKnob Try.prog.godebug = none := by kernel_rfl
/-- The program with the alive law run already. -/
noncomputable def G1 : Vq.VProg := Vq.vprog Try.prog ap ib keeps (Vq.more prims 14 (.prim Vq.truePrim))
theorem alive : Vq.isTrue (Vq.call G 200 14 [] []) = true := by kernel_rfl
theorem g1_ok : Vq.GOk Try.prog G1 := Vq.vprog_ok (Vq.more_ok prims_ok (Vq.truePrim_ok (Vq.vprog_ok prims_ok) alive))
theorem g1_14 : G1 14 = some (.prim Vq.truePrim) := rfl
theorem g1_54 : G1 54 = some (.iter (Vq.backwardI true 65)) := rfl
theorem g1_15 : G1 15 = some (.code Vq.L1.v15) := by kernel_rfl
theorem g1_16 : G1 16 = some (.code Vq.L1.v16) := by kernel_rfl
theorem g1_18 : G1 18 = some (.code Vq.L1.v18) := by kernel_rfl
theorem g1_19 : G1 19 = some (.code Vq.L1.v19) := by kernel_rfl
theorem g1_20 : G1 20 = some (.code Vq.L1.v20) := by kernel_rfl
theorem g1_21 : G1 21 = some (.code Vq.L1.v21) := by kernel_rfl
theorem g1_22 : G1 22 = some (.code Vq.L1.v22) := by kernel_rfl
theorem g1_23 : G1 23 = some (.code Vq.L1.v23) := by kernel_rfl
theorem g1_24 : G1 24 = some (.code Vq.L1.v24) := by kernel_rfl
theorem g1_45 : G1 45 = some (.code Vq.L1.v45) := by kernel_rfl
theorem g1_46 : G1 46 = some (.code Vq.L1.v46) := by kernel_rfl
theorem g1_47 : G1 47 = some (.code Vq.L1.v47) := by kernel_rfl
theorem g1_17 : G1 17 = some (.code Vq.L1.v17) := by kernel_rfl
theorem plate : Vq.L1.Plate G1 := Vq.L1.plate_ok G1 g1_15 g1_16 g1_18 g1_19 g1_20 g1_21 g1_22 g1_23 g1_24 g1_45 g1_46 g1_47 g1_54
theorem g1_7 : G1 7 = some (.code Vq.L1.v7) := by kernel_rfl
theorem runs (us : List Vq.V) (h : Vq.HasTs Try.prog [3, 3] us) : Vq.call G1 5000 7 us [] = some (.bool true, []) := by
  obtain ⟨v0, us, rfl, h0, h⟩ := h.inv
  obtain ⟨v1, us, rfl, h1, h⟩ := h.inv
  obtain rfl := h.inv_nil
  obtain ⟨a, rfl, _⟩ := h0.int Try.underlying3
  obtain ⟨b, rfl, _⟩ := h1.int Try.underlying3
  exact Vq.L1.law7 G1 g1_7 (fun m _ => Vq.call_prim g1_14) plate (fun v n hn => Vq.L1.cell17 G1 g1_17 v n hn) a b 5000 (by omega)

/-! ### the row's step -/
theorem types : Try.f7.params.toList = [3, 3] := by kernel_rfl
theorem argsOk : ((Try.f7.params.toList).all fun t => Vq.argT Try.prog 8 true t) = true := by kernel_rfl
set_option maxRecDepth 100000 in
theorem lifted (os : Os) (started : os.Started) (H : Type) (enc : TypeId × Value → H) :
    ReturnsInHanded {} Try.checked os 7 .any (Rows.plateLimitsSpec.pre6 enc Try.prog Try.f7 Rows.plateLimitsRow.domain false) (Rows.plateLimitsSpec.post enc Try.prog Try.f7 false true false false) := by
  refine returnsInHanded_of_change (C := Try.checked) own started (by kernel_rfl) Try.func7
    (ChangeSpec.witness6 (enc := enc) (C := Try.checked) false ⟨#[], #[.int .i64 0, .int .i64 0], []⟩ 8 (by kernel_rfl) (by kernel_rfl) (by kernel_rfl) (by kernel_rfl)) ?_
  intro W base args ds gs before hval0 hW hcnd _
  have hval : ∀ (j : Nat) t v, Try.f7.params[j]? = some t → args[j]? = some v → Value.okWide Try.prog W .any base t v := hval0
  have hW' := hW
  obtain ⟨p, q, hA0, hV, rfl, hfz, hnd⟩ := hW
  have hA : DataW.TrodAll enc Try.prog W 0 (fun _ => true) true Try.f7.params.toList args.toList ds p := hA0
  obtain ⟨us, ha, ht⟩ := Vq.args_rel (fun t ht => ⟨8, List.all_eq_true.1 argsOk t ht⟩) hA (fun j t v h1 h2 => hval j t v (by simpa using h1) (by simpa using h2))
  rw [types] at ht
  refine (Vq.true_walk_args (xs := args.toList) g1_ok (runs us ht) W ha).mono fun e W' ⟨he, hg⟩ => ?_
  subst he
  exact ⟨_, rfl, Vq.post_args (tb := 4) 8 hW' hg argsOk rfl (fun l hl => by
    have hl' : l.length = [3, 3].length := by rw [← types]; simpa using hl
    clear hl
    match l, hl' with
    | [d0, d1], _ => rfl) (by kernel_rfl) Try.underlying4⟩

theorem over : Rows.plateLimitsRow.holds Try.pinned (OpenSpec.ofChange Rows.plateLimitsSpec) :=
  OpenClaim.holds_of_wide 7 Try.f7 rfl rfl rfl rfl rfl rfl rfl ⟨rfl, rfl, rfl, rfl, rfl⟩ rfl rfl rfl rfl rfl (by kernel_rfl) Try.func7 (by kernel_rfl)
    (of_decide_eq_true (by kernel_rfl)) (by unfold Func.isWrapper; first | (rw [if_pos (by decide +kernel)]; kernel_rfl) | (rw [if_neg (by decide +kernel)]; exact ⟨rfl, rfl⟩))
    (fun os started H enc _ => lifted os started H enc)

/-- ████ THE STATEMENT ████ -/
theorem proved : Rows.PlateLimitsSaid :=
  over
#print axioms proved
end Go.Proofs.Ytigbpkocmklbpaa.plateLimits
