/- Proved: PlateRuns answers true for any arguments, whatever the world it is called in; no condition. -/
import Derived.Test.YtigbpkocmklbpaaRows
import Derived.Test.YtigbpkocmklbpaaK
import Derived.Test.YtigbpkocmklbpaaL14
import Derived.WalkKit
import Derived.ProofKit
import Derived.OpenShut
import Derived.ShutString
set_option linter.unusedVariables false
set_option linter.unusedSimpArgs false
namespace Go.Proofs.Ytigbpkocmklbpaa.plateRuns
open Go.ChangeShapes Go.WideShapes Go.ChangeAt Go.RowKit
theorem own : ownKnob Try.prog.godebug = none := by kernel_rfl
/-- The program with the alive law run already. -/
noncomputable def G1 : Vq.VProg := Vq.vprog Try.prog ap ib keeps (Vq.more prims 14 (.prim Vq.truePrim))
theorem alive : Vq.isTrue (Vq.call G 200 14 [] []) = true := by kernel_rfl
theorem g1_ok : Vq.GOk Try.prog G1 := Vq.vprog_ok (Vq.more_ok prims_ok (Vq.truePrim_ok (Vq.vprog_ok prims_ok) alive))
theorem g1_14 : G1 14 = some (.prim Vq.truePrim) := rfl
theorem g1_54 : G1 54 = some (.iter (Vq.backwardI true 65)) := rfl
theorem plate : Vq.L1.Plate G1 := Vq.L1.plate_ok G1 (by kernel_rfl) (by kernel_rfl) (by kernel_rfl) (by kernel_rfl) (by kernel_rfl) (by kernel_rfl) (by kernel_rfl) (by kernel_rfl) (by kernel_rfl) (by kernel_rfl) (by kernel_rfl) (by kernel_rfl) g1_54
theorem refs : Vq.L1.RefP G1 := Vq.L1.ref_ok G1 (by kernel_rfl) (by kernel_rfl) (by kernel_rfl) (by kernel_rfl) (by kernel_rfl) (by kernel_rfl) (by kernel_rfl)
theorem g1_17 : G1 17 = some (.code Vq.L1.v17) := by kernel_rfl
theorem g1_6 : G1 6 = some (.code Vq.L1.v6) := by kernel_rfl
theorem act_of {x : Vq.V} (h : Vq.HasT Try.prog 31 x) : ∃ a : Int × Int × Int × Nat, x = Vq.L1.actV a ∧ (a.2.2.2 < 256 ∧ a.2.1 < 9223372036854775808) := by
  obtain ⟨cs, rfl, hc⟩ := h.agg (by kernel_rfl)
  obtain ⟨c2, w2, rfl, hc2, hn2⟩ := hc.inv_struct Try.underlying31
  obtain rfl := hn2.inv_nil
  have hc3 : Vq.HasC Try.prog [3, 3, 3, 5] c2 := hc2
  obtain ⟨k, c4, rfl, _, hc4⟩ := hc3.inv_int Try.underlying3
  obtain ⟨a, c5, rfl, ha, hc5⟩ := hc4.inv_int Try.underlying3
  obtain ⟨t, c6, rfl, _, hc6⟩ := hc5.inv_int Try.underlying3
  obtain ⟨v, c7, rfl, hv, hc7⟩ := hc6.inv_int Try.underlying5
  obtain rfl := hc7.inv_nil
  have hv' : 0 ≤ v ∧ v < 256 := by simp [Lit.wf, IntKind.min, IntKind.max, IntKind.signed, IntKind.bits] at hv; omega
  have ha' : a < 9223372036854775808 := by simp [Lit.wf, IntKind.min, IntKind.max, IntKind.signed, IntKind.bits] at ha; omega
  obtain ⟨v, rfl⟩ : ∃ n : Nat, v = n := ⟨v.toNat, by omega⟩
  exact ⟨(k, a, t, v), rfl, by simp only; omega, ha'⟩
theorem runs (us : List Vq.V) (h : Vq.HasTs Try.prog [3, 22] us) : Vq.call G1 7000 6 us [] = some (.bool true, []) := by
  obtain ⟨v0, us, rfl, h0, h⟩ := h.inv
  obtain ⟨v1, us, rfl, h1, h⟩ := h.inv
  obtain rfl := h.inv_nil
  obtain ⟨c, rfl, _⟩ := h0.int Try.underlying3
  obtain ⟨es, rfl, _, hes⟩ := h1.slice Try.underlying22
  rw [show Try.prog.cellsOf 31 = 4 by kernel_rfl]
  obtain ⟨acts, rfl, hacts⟩ := Vq.mapx (f := Vq.L1.actV) fun x hx => act_of (hes x hx)
  exact Vq.L1.law6 G1 g1_6 (fun m _ => Vq.call_prim g1_14) plate refs (fun v n hn => Vq.L1.cell17 G1 g1_17 v n hn) c acts (fun a ha => (hacts a ha).1) (fun a ha => (hacts a ha).2) 7000 (by omega)

/-! ### the row's step -/
theorem types : Try.f6.params.toList = [3, 22] := by kernel_rfl
theorem argsOk : ((Try.f6.params.toList).all fun t => Vq.argT Try.prog 8 true t) = true := by kernel_rfl
set_option maxRecDepth 100000 in
theorem lifted (os : Os) (started : os.Started) (H : Type) (enc : TypeId × Value → H) :
    ReturnsInHanded {} Try.checked os 6 .any (Rows.plateRunsSpec.pre6 enc Try.prog Try.f6 Rows.plateRunsRow.domain false) (Rows.plateRunsSpec.post enc Try.prog Try.f6 false true false false) := by
  refine returnsInHanded_of_change (C := Try.checked) own started (by kernel_rfl) Try.func6
    (ChangeSpec.witness6 (enc := enc) (C := Try.checked) false ⟨#[], #[.int .i64 0, .slice none 0 0], []⟩ 8 (by kernel_rfl) (by kernel_rfl) (by kernel_rfl) (by kernel_rfl)) ?_
  intro W base args ds gs before hval0 hW hcnd _
  have hval : ∀ (j : Nat) t v, Try.f6.params[j]? = some t → args[j]? = some v → Value.okWide Try.prog W .any base t v := hval0
  have hW' := hW
  obtain ⟨p, q, hA0, hV, rfl, hfz, hnd⟩ := hW
  have hA : DataW.TrodAll enc Try.prog W 0 (fun _ => true) true Try.f6.params.toList args.toList ds p := hA0
  obtain ⟨us, ha, ht⟩ := Vq.args_rel (fun t ht => ⟨8, List.all_eq_true.1 argsOk t ht⟩) hA (fun j t v h1 h2 => hval j t v (by simpa using h1) (by simpa using h2))
  rw [types] at ht
  refine (Vq.true_walk_args (xs := args.toList) g1_ok (runs us ht) W ha).mono fun e W' ⟨he, hg⟩ => ?_
  subst he
  exact ⟨_, rfl, Vq.post_args (tb := 4) 8 hW' hg argsOk rfl (fun l hl => by
    have hl' : l.length = [3, 22].length := by rw [← types]; simpa using hl
    clear hl
    match l, hl' with
    | [d0, d1], _ => rfl) (by kernel_rfl) Try.underlying4⟩

theorem over : Rows.plateRunsRow.holds Try.pinned (OpenSpec.ofChange Rows.plateRunsSpec) :=
  OpenClaim.holds_of_wide 6 Try.f6 rfl rfl rfl rfl rfl rfl rfl ⟨rfl, rfl, rfl, rfl, rfl⟩ rfl rfl rfl rfl rfl (by kernel_rfl) Try.func6 (by kernel_rfl)
    (of_decide_eq_true (by kernel_rfl)) (by unfold Func.isWrapper; first | (rw [if_pos (by decide +kernel)]; kernel_rfl) | (rw [if_neg (by decide +kernel)]; exact ⟨rfl, rfl⟩))
    (fun os started H enc _ => lifted os started H enc)

/-- ████ THE STATEMENT ████ -/
theorem proved : Rows.PlateRunsSaid :=
  over
#print axioms proved
end Go.Proofs.Ytigbpkocmklbpaa.plateRuns
