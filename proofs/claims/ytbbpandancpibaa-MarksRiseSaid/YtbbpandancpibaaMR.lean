/- Proved: MarksRise answers true for any arguments, whatever the world it is called in; no condition. -/
import Derived.Test.YtbbpandancpibaaRows
import Derived.Test.YtbbpandancpibaaK
import Derived.Test.YtbbpandancpibaaQ
import Derived.WalkKit
import Derived.ProofKit
import Derived.OpenShut
import Derived.ShutString
set_option linter.unusedVariables false
set_option linter.unusedSimpArgs false
namespace Go.Proofs.Ytbbpandancpibaa.marksRise
open Go.ChangeShapes Go.WideShapes Go.ChangeAt Go.RowKit
theorem own : ownKnob Try.prog.godebug = none := by kernel_rfl
/-- The program with the alive law run already. -/
noncomputable def G1 : Vq.VProg := Vq.vprog Try.prog ap ib keeps (Vq.more prims 12 (.prim Vq.truePrim))
theorem alive : Vq.isTrue (Vq.call G 200 12 [] []) = true := by kernel_rfl
theorem g1_ok : Vq.GOk Try.prog G1 := Vq.vprog_ok (Vq.more_ok prims_ok (Vq.truePrim_ok (Vq.vprog_ok prims_ok) alive))
theorem g1_12 : G1 12 = some (.prim Vq.truePrim) := rfl
theorem g1_51 : G1 51 = some (.prim (Vq.clonePrim 1 1)) := rfl
theorem g1_80 : G1 80 = some (.iter (Vq.backwardI true 65)) := rfl
theorem g1_88 : G1 88 = some (.iter (Vq.backwardI false 1)) := rfl
theorem clone (es : List Vq.V) (h : es.length ≤ 140737488355328) : Vq.lim G1 51 [.isl 0 1 es] [] = some (.xsl 0 1 es, []) := Vq.lim_prim g1_51 (by simp [Vq.clonePrim, h])
theorem marks : Vq.P1.Marks G1 := Vq.P1.marks_ok G1 clone (by kernel_rfl) (by kernel_rfl) (by kernel_rfl) (by kernel_rfl) (by kernel_rfl) (by kernel_rfl) g1_80 (by kernel_rfl) (by kernel_rfl) g1_88 (by kernel_rfl) (by kernel_rfl) (by kernel_rfl) (by kernel_rfl) (by kernel_rfl) (by kernel_rfl) (by kernel_rfl) (by kernel_rfl)
theorem runs (us : List Vq.V) (h : Vq.HasTs Try.prog [33, 31] us) : Vq.lim G1 4 us [] = some (.bool true, []) := by
  obtain ⟨v0, us, rfl, h0, h⟩ := h.inv
  obtain ⟨v1, us, rfl, h1, h⟩ := h.inv
  obtain rfl := h.inv_nil
  obtain ⟨rs, rfl, hrs⟩ := h0.ints Try.underlying33 Try.underlying25 (by kernel_rfl)
  obtain ⟨ns, rfl, hns⟩ := h1.ints Try.underlying31 Try.underlying5 (by kernel_rfl)
  obtain ⟨b, e1, hb⟩ := Vq.bytes_nat ns hns
  rw [e1]
  obtain ⟨rn, e2, hrn⟩ : ∃ rn : List Nat, rs.map (Vq.V.int .u64) = Vq.P1.rsV rn ∧ ∀ r ∈ rn, r < 2 ^ 64 := by
    have hw : ∀ r ∈ rs, 0 ≤ r ∧ r < 18446744073709551616 := fun r hr => by
      have := hrs r hr
      simp [Lit.wf, IntKind.min, IntKind.max, IntKind.signed, IntKind.bits] at this; omega
    refine ⟨rs.map Int.toNat, ?_, fun r hr => ?_⟩
    · simp only [Vq.P1.rsV, List.map_map]
      refine List.map_congr_left fun r hr => ?_
      have := hw r hr
      show Vq.V.int .u64 r = Vq.V.int .u64 ((r.toNat : Nat) : Int)
      rw [Int.toNat_of_nonneg this.1]
    · obtain ⟨x, hx, rfl⟩ := List.mem_map.1 hr
      have := hw x hx
      omega
  rw [e2]
  exact Vq.P1.rise G1 (by kernel_rfl) (Vq.lim_prim g1_12 rfl) (fun n => Vq.P1.pnew G1 (by kernel_rfl) n) marks rn hrn b hb

/-! ### the row's step -/
theorem types : Try.f4.params.toList = [33, 31] := by kernel_rfl
theorem argsOk : ((Try.f4.params.toList).all fun t => Vq.argT Try.prog 8 true t) = true := by kernel_rfl
set_option maxRecDepth 100000 in
theorem lifted (os : Os) (started : os.Started) (H : Type) (enc : TypeId × Value → H) :
    ReturnsInHanded {} Try.checked os 4 .any (Rows.marksRiseSpec.pre6 enc Try.prog Try.f4 Rows.marksRiseRow.domain false) (Rows.marksRiseSpec.post enc Try.prog Try.f4 false true false false) := by
  refine returnsInHanded_of_change (C := Try.checked) own started (by kernel_rfl) Try.func4
    (ChangeSpec.witness6 (enc := enc) (C := Try.checked) false ⟨#[], #[.slice none 0 0, .slice none 0 0], []⟩ 8 (by kernel_rfl) (by kernel_rfl) (by kernel_rfl) (by kernel_rfl)) ?_
  intro W base args ds gs before hval0 hW hcnd _
  have hval : ∀ (j : Nat) t v, Try.f4.params[j]? = some t → args[j]? = some v → Value.okWide Try.prog W .any base t v := hval0
  have hW' := hW
  obtain ⟨p, q, hA0, hV, rfl, hfz, hnd⟩ := hW
  have hA : DataW.TrodAll enc Try.prog W 0 (fun _ => true) true Try.f4.params.toList args.toList ds p := hA0
  obtain ⟨us, ha, ht⟩ := Vq.args_rel (fun t ht => ⟨8, List.all_eq_true.1 argsOk t ht⟩) hA (fun j t v h1 h2 => hval j t v (by simpa using h1) (by simpa using h2))
  rw [types] at ht
  obtain ⟨_, hrun⟩ := Vq.lim_ev (runs us ht)
  refine (Vq.true_walk_args (xs := args.toList) g1_ok (hrun _ (Nat.le_refl _)) W ha).mono fun e W' ⟨he, hg⟩ => ?_
  subst he
  exact ⟨_, rfl, Vq.post_args (tb := 4) 8 hW' hg argsOk rfl (fun l hl => by
    have hl' : l.length = [33, 31].length := by rw [← types]; simpa using hl
    clear hl
    match l, hl' with
    | [d0, d1], _ => rfl) (by kernel_rfl) Try.underlying4⟩

theorem over : Rows.marksRiseRow.holds Try.pinned (OpenSpec.ofChange Rows.marksRiseSpec) :=
  OpenClaim.holds_of_wide 4 Try.f4 rfl rfl rfl rfl rfl rfl rfl ⟨rfl, rfl, rfl, rfl, rfl⟩ rfl rfl rfl rfl rfl (by kernel_rfl) Try.func4 (by kernel_rfl)
    (of_decide_eq_true (by kernel_rfl)) (by unfold Func.isWrapper; first | (rw [if_pos (by decide +kernel)]; kernel_rfl) | (rw [if_neg (by decide +kernel)]; exact ⟨rfl, rfl⟩))
    (fun os started H enc _ => lifted os started H enc)

/-- ████ THE STATEMENT ████ -/
theorem proved : Rows.MarksRiseSaid :=
  over
#print axioms proved
end Go.Proofs.Ytbbpandancpibaa.marksRise
