/- Proved: PlateKeeps answers true for any arguments, whatever the world it is called in; no condition. -/
import Derived.Test.YtigbpkocmklbpaaRows
import Derived.Test.YtigbpkocmklbpaaK
import Derived.Test.YtigbpkocmklbpaaF15
import Derived.WalkKit
import Derived.ProofKit
import Derived.OpenShut
import Derived.ShutString
set_option linter.unusedVariables false
set_option linter.unusedSimpArgs false
namespace Go.Proofs.Ytigbpkocmklbpaa.plateKeeps
open Go.ChangeShapes Go.WideShapes Go.ChangeAt Go.RowKit
theorem own : ownKnob Try.prog.godebug = none := by kernel_rfl
noncomputable def G1 : Vq.VProg := Vq.vprog Try.prog ap ib keeps (Vq.more prims 14 (.prim Vq.truePrim))
theorem alive : Vq.isTrue (Vq.call G 200 14 [] []) = true := by kernel_rfl
theorem g1_ok : Vq.GOk Try.prog G1 := Vq.vprog_ok (Vq.more_ok prims_ok (Vq.truePrim_ok (Vq.vprog_ok prims_ok) alive))
theorem g1_14 : G1 14 = some (.prim Vq.truePrim) := rfl
theorem g1_54 : G1 54 = some (.iter (Vq.backwardI true 65)) := rfl
theorem act_of {x : Vq.V} (h : Vq.HasT Try.prog 31 x) : ∃ a : Vq.P1.ActK, x = Vq.P1.actK a ∧ a.v < 256 := by
  obtain ⟨cs, rfl, hc⟩ := h.agg (by kernel_rfl)
  obtain ⟨c2, w2, rfl, hc2, hn2⟩ := hc.inv_struct Try.underlying31
  obtain rfl := hn2.inv_nil
  have hc3 : Vq.HasC Try.prog [3, 3, 3, 5] c2 := hc2
  obtain ⟨k, _, rfl, _, hc3⟩ := hc3.inv_int Try.underlying3
  obtain ⟨a, _, rfl, _, hc3⟩ := hc3.inv_int Try.underlying3
  obtain ⟨n, _, rfl, _, hc3⟩ := hc3.inv_int Try.underlying3
  obtain ⟨v, _, rfl, hv, hc3⟩ := hc3.inv_int Try.underlying5
  obtain rfl := hc3.inv_nil
  have hv' : 0 ≤ v ∧ v < 256 := by simp [Lit.wf, IntKind.min, IntKind.max, IntKind.signed, IntKind.bits] at hv; omega
  obtain ⟨v, rfl⟩ : ∃ m : Nat, v = m := ⟨v.toNat, by omega⟩
  exact ⟨⟨k, a, n, v⟩, rfl, by simp only; omega⟩
theorem acts_of {es : List Vq.V} (h : ∀ x ∈ es, Vq.HasT Try.prog 31 x) : ∃ l : List Vq.P1.ActK, es = l.map Vq.P1.actK ∧ ∀ a ∈ l, a.v < 256 :=
  Vq.mapx (f := Vq.P1.actK) fun x hx => act_of (h x hx)
theorem runs (us : List Vq.V) (h : Vq.HasTs Try.prog [23, 24, 25] us) : Vq.lim G1 3 us [] = some (.bool true, []) := by
  obtain ⟨v0, us, rfl, h0, h⟩ := h.inv
  obtain ⟨v1, us, rfl, h1, h⟩ := h.inv
  obtain ⟨v2, us, rfl, h2, h⟩ := h.inv
  obtain rfl := h.inv_nil
  have c4 : Try.prog.cellsOf 31 = 4 := by kernel_rfl
  have c1 : Try.prog.cellsOf 5 = 1 := by kernel_rfl
  obtain ⟨cs, rfl, hc⟩ := h0.agg (by kernel_rfl)
  obtain ⟨c2, w2, rfl, hc2, hn2⟩ := hc.inv_array Try.underlying23
  obtain rfl := hn2.inv_nil
  have hc3 : Vq.HasC Try.prog [22, 22] c2 := hc2
  obtain ⟨e1, _, rfl, _, he1, hc3⟩ := hc3.inv_slice Try.underlying22
  obtain ⟨e2, _, rfl, _, he2, hc3⟩ := hc3.inv_slice Try.underlying22
  obtain rfl := hc3.inv_nil
  obtain ⟨as1, rfl, hv1⟩ := acts_of he1
  obtain ⟨as2, rfl, hv2⟩ := acts_of he2
  obtain ⟨es, rfl, _, hes⟩ := h1.slice Try.underlying24
  obtain ⟨ns, rfl, hns⟩ := Vq.mapx (f := Vq.V.int .u8) fun x hx => (hes x hx).int Try.underlying5
  obtain ⟨kp, e3, _⟩ := Vq.bytes_nat ns hns
  rw [e3, c1, c4]
  obtain ⟨ds, rfl, hd⟩ := h2.agg (by kernel_rfl)
  obtain ⟨d2, w3, rfl, hd2, hn3⟩ := hd.inv_array Try.underlying25
  obtain rfl := hn3.inv_nil
  have hd3 : Vq.HasC Try.prog [3, 3] d2 := hd2
  obtain ⟨t0, _, rfl, _, hd3⟩ := hd3.inv_int Try.underlying3
  obtain ⟨t1, _, rfl, _, hd3⟩ := hd3.inv_int Try.underlying3
  obtain rfl := hd3.inv_nil
  have hthere := Vq.P1.there G1 (by kernel_rfl)
  have hspend := Vq.P1.spend G1 (by kernel_rfl)
  exact Vq.P1.plateKeeps G1 (by kernel_rfl) (Vq.lim_prim g1_14 rfl) (Vq.P1.pnew G1 (by kernel_rfl) 20) as1 as2 kp t0 t1 hv1 hv2
    (fun i c hc es fz ls off left hb hl => Vq.P1.put G1 (by kernel_rfl) hthere hspend i c hc es fz ls off left hb hl)
    (fun v hv => Vq.P1.lcell G1 (by kernel_rfl) v hv)
    (fun i es fz ls off left he hl hn => Vq.P1.pget G1 (by kernel_rfl) g1_54 hthere (Vq.P1.back G1 (by kernel_rfl)) i es fz ls off left he hl hn)
    (fun es fz ls off left he hw hb hl => Vq.P1.flush G1 (by kernel_rfl) hspend es fz ls off left he hw hb hl)
    (fun es fz ls off left => Vq.P1.loose G1 (by kernel_rfl) es fz ls off left)
    (fun kp torn at' es fz ls off left he hl hn => Vq.P1.fail G1 (by kernel_rfl) kp torn at' es fz ls off left he hl hn)

/-! ### the row's step -/
theorem types : Try.f3.params.toList = [23, 24, 25] := by kernel_rfl
theorem argsOk : ((Try.f3.params.toList).all fun t => Vq.argT Try.prog 8 true t) = true := by kernel_rfl
set_option maxRecDepth 100000 in
theorem lifted (os : Os) (started : os.Started) (H : Type) (enc : TypeId × Value → H) :
    ReturnsInHanded {} Try.checked os 3 .any (Rows.plateKeepsSpec.pre6 enc Try.prog Try.f3 Rows.plateKeepsRow.domain false) (Rows.plateKeepsSpec.post enc Try.prog Try.f3 false true false false) := by
  refine returnsInHanded_of_change (C := Try.checked) own started (by kernel_rfl) Try.func3
    (ChangeSpec.witness6 (enc := enc) (C := Try.checked) false ⟨#[], #[.agg #[.slice none 0 0, .slice none 0 0], .slice none 0 0, .agg #[.int .i64 0, .int .i64 0]], []⟩ 8 (by kernel_rfl) (by kernel_rfl) (by kernel_rfl) (by kernel_rfl)) ?_
  intro W base args ds gs before hval0 hW hcnd _
  have hval : ∀ (j : Nat) t v, Try.f3.params[j]? = some t → args[j]? = some v → Value.okWide Try.prog W .any base t v := hval0
  have hW' := hW
  obtain ⟨p, q, hA0, hV, rfl, hfz, hnd⟩ := hW
  have hA : DataW.TrodAll enc Try.prog W 0 (fun _ => true) true Try.f3.params.toList args.toList ds p := hA0
  obtain ⟨us, ha, ht⟩ := Vq.args_rel (fun t ht => ⟨8, List.all_eq_true.1 argsOk t ht⟩) hA (fun j t v h1 h2 => hval j t v (by simpa using h1) (by simpa using h2))
  rw [types] at ht
  obtain ⟨_, hrun⟩ := Vq.lim_ev (runs us ht)
  refine (Vq.true_walk_args (xs := args.toList) g1_ok (hrun _ (Nat.le_refl _)) W ha).mono fun e W' ⟨he, hg⟩ => ?_
  subst he
  exact ⟨_, rfl, Vq.post_args (tb := 4) 8 hW' hg argsOk rfl (fun l hl => by
    have hl' : l.length = [23, 24, 25].length := by rw [← types]; simpa using hl
    clear hl
    match l, hl' with
    | [d0, d1, d2], _ => rfl) (by kernel_rfl) Try.underlying4⟩

theorem over : Rows.plateKeepsRow.holds Try.pinned (OpenSpec.ofChange Rows.plateKeepsSpec) :=
  OpenClaim.holds_of_wide 3 Try.f3 rfl rfl rfl rfl rfl rfl rfl ⟨rfl, rfl, rfl, rfl, rfl⟩ rfl rfl rfl rfl rfl (by kernel_rfl) Try.func3 (by kernel_rfl)
    (of_decide_eq_true (by kernel_rfl)) (by unfold Func.isWrapper; first | (rw [if_pos (by decide +kernel)]; kernel_rfl) | (rw [if_neg (by decide +kernel)]; exact ⟨rfl, rfl⟩))
    (fun os started H enc _ => lifted os started H enc)

/-- ████ THE STATEMENT ████ -/
theorem proved : Rows.PlateKeepsSaid :=
  over
#print axioms proved
end Go.Proofs.Ytigbpkocmklbpaa.plateKeeps
