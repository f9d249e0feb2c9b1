/- Proved: PacketReads answers true for any arguments, whatever the world it is called in; no condition. -/
import Derived.Test.YtigbpkocmklbpaaRows
import Derived.Test.YtigbpkocmklbpaaK
import Derived.Test.YtigbpkocmklbpaaQ
import Derived.WalkKit
import Derived.ProofKit
import Derived.OpenShut
import Derived.ShutString
set_option linter.unusedVariables false
set_option linter.unusedSimpArgs false
namespace Go.Proofs.Ytigbpkocmklbpaa.packetReads
open Go.ChangeShapes Go.WideShapes Go.ChangeAt Go.RowKit
theorem own : ownKnob Try.prog.godebug = none := by kernel_rfl
/-- The program with the alive law run already. -/
noncomputable def G1 : Vq.VProg := Vq.vprog Try.prog ap ib keeps (Vq.more prims 31 (.prim Vq.truePrim))
theorem alive : Vq.isTrue (Vq.call G 200 31 [] []) = true := by kernel_rfl
theorem g1_ok : Vq.GOk Try.prog G1 := Vq.vprog_ok (Vq.more_ok prims_ok (Vq.truePrim_ok (Vq.vprog_ok prims_ok) alive))
theorem g1_31 : G1 31 = some (.prim Vq.truePrim) := rfl
theorem g1_53 : G1 53 = some (.prim (Vq.clonePrim 1 1)) := rfl
theorem clone (es : List Vq.V) (h : es.length ≤ 140737488355328) : Vq.lim G1 53 [.isl 0 1 es] [] = some (.xsl 0 1 es, []) := Vq.lim_prim g1_53 (by simp [Vq.clonePrim, h])
theorem step_of {x : Vq.V} (h : Vq.HasT Try.prog 85 x) : ∃ a : Int × Nat, x = Vq.P1.stepV a ∧ a.2 < 2 ^ 64 := by
  obtain ⟨cs, rfl, hc⟩ := h.agg (by kernel_rfl)
  obtain ⟨c2, w2, rfl, hc2, hn2⟩ := hc.inv_struct Try.underlying85
  obtain rfl := hn2.inv_nil
  have hc3 : Vq.HasC Try.prog [3, 71] c2 := hc2
  obtain ⟨k, c4, rfl, _, hc4⟩ := hc3.inv_int Try.underlying3
  obtain ⟨a, c5, rfl, ha, hc5⟩ := hc4.inv_int Try.underlying71
  obtain rfl := hc5.inv_nil
  have ha' : 0 ≤ a ∧ a < 18446744073709551616 := by simp [Lit.wf, IntKind.min, IntKind.max, IntKind.signed, IntKind.bits] at ha; omega
  obtain ⟨a, rfl⟩ : ∃ n : Nat, a = n := ⟨a.toNat, by omega⟩
  exact ⟨(k, a), rfl, by simp only; omega⟩
theorem rd : Vq.P1.Rd G1 := by
  have hnum := fun (l : List Nat) (L : Nat) (hl : l.length < 2 ^ 40) (hb : ∀ x ∈ l, x < 256) (hL : L < 2 ^ 64) => Vq.P1.number G1 (by kernel_rfl) l L hl hb hL
  have hrn := fun (l : List Nat) (b : Bool) (L : Nat) (hl : l.length < 2 ^ 40) (hb : ∀ x ∈ l, x < 256) (hL : L < 2 ^ 64) => Vq.P1.rnum G1 (by kernel_rfl) l b L (hnum l L hl hb hL)
  exact ⟨fun l L hl hb hL => Vq.P1.take G1 (by kernel_rfl) l L hl hb hL, fun l b => Vq.P1.bad G1 (by kernel_rfl) l b, fun l b => Vq.P1.done G1 (by kernel_rfl) l b, hrn,
    fun l b L hl hb hL => Vq.P1.rtext G1 (by kernel_rfl) l b L hl hL (hrn l _ _ hl hb (by omega))⟩
theorem runs (us : List Vq.V) (h : Vq.HasTs Try.prog [24, 83] us) : Vq.lim G1 13 us [] = some (.bool true, []) := by
  obtain ⟨v0, us, rfl, h0, h⟩ := h.inv
  obtain ⟨v1, us, rfl, h1, h⟩ := h.inv
  obtain rfl := h.inv_nil
  obtain ⟨ns, rfl, hns⟩ := h0.ints Try.underlying24 Try.underlying5 (by kernel_rfl)
  obtain ⟨b, e1, hb⟩ := Vq.bytes_nat ns hns
  rw [e1]
  obtain ⟨es, rfl, _, hes⟩ := h1.slice Try.underlying83
  rw [show Try.prog.cellsOf 85 = 2 by kernel_rfl]
  obtain ⟨steps, rfl, hst⟩ := Vq.mapx (f := Vq.P1.stepV) fun x hx => step_of (hes x hx)
  exact Vq.P1.reads (by kernel_rfl) (Vq.lim_prim g1_31 rfl) rd (fun l hl => Vq.P1.new G1 (by kernel_rfl) clone l hl) b hb steps hst

/-! ### the row's step -/
theorem types : Try.f13.params.toList = [24, 83] := by kernel_rfl
theorem argsOk : ((Try.f13.params.toList).all fun t => Vq.argT Try.prog 8 true t) = true := by kernel_rfl
set_option maxRecDepth 100000 in
theorem lifted (os : Os) (started : os.Started) (H : Type) (enc : TypeId × Value → H) :
    ReturnsInHanded {} Try.checked os 13 .any (Rows.packetReadsSpec.pre6 enc Try.prog Try.f13 Rows.packetReadsRow.domain false) (Rows.packetReadsSpec.post enc Try.prog Try.f13 false true false false) := by
  refine returnsInHanded_of_change (C := Try.checked) own started (by kernel_rfl) Try.func13
    (ChangeSpec.witness6 (enc := enc) (C := Try.checked) false ⟨#[], #[.slice none 0 0, .slice none 0 0], []⟩ 8 (by kernel_rfl) (by kernel_rfl) (by kernel_rfl) (by kernel_rfl)) ?_
  intro W base args ds gs before hval0 hW hcnd _
  have hval : ∀ (j : Nat) t v, Try.f13.params[j]? = some t → args[j]? = some v → Value.okWide Try.prog W .any base t v := hval0
  have hW' := hW
  obtain ⟨p, q, hA0, hV, rfl, hfz, hnd⟩ := hW
  have hA : DataW.TrodAll enc Try.prog W 0 (fun _ => true) true Try.f13.params.toList args.toList ds p := hA0
  obtain ⟨us, ha, ht⟩ := Vq.args_rel (fun t ht => ⟨8, List.all_eq_true.1 argsOk t ht⟩) hA (fun j t v h1 h2 => hval j t v (by simpa using h1) (by simpa using h2))
  rw [types] at ht
  obtain ⟨_, hrun⟩ := Vq.lim_ev (runs us ht)
  refine (Vq.true_walk_args (xs := args.toList) g1_ok (hrun _ (Nat.le_refl _)) W ha).mono fun e W' ⟨he, hg⟩ => ?_
  subst he
  exact ⟨_, rfl, Vq.post_args (tb := 4) 8 hW' hg argsOk rfl (fun l hl => by
    have hl' : l.length = [24, 83].length := by rw [← types]; simpa using hl
    clear hl
    match l, hl' with
    | [d0, d1], _ => rfl) (by kernel_rfl) Try.underlying4⟩

theorem over : Rows.packetReadsRow.holds Try.pinned (OpenSpec.ofChange Rows.packetReadsSpec) :=
  OpenClaim.holds_of_wide 13 Try.f13 rfl rfl rfl rfl rfl rfl rfl ⟨rfl, rfl, rfl, rfl, rfl⟩ rfl rfl rfl rfl rfl (by kernel_rfl) Try.func13 (by kernel_rfl)
    (of_decide_eq_true (by kernel_rfl)) (by unfold Func.isWrapper; first | (rw [if_pos (by decide +kernel)]; kernel_rfl) | (rw [if_neg (by decide +kernel)]; exact ⟨rfl, rfl⟩))
    (fun os started H enc _ => lifted os started H enc)

/-- ████ THE STATEMENT ████ -/
theorem proved : Rows.PacketReadsSaid :=
  over
#print axioms proved
end Go.Proofs.Ytigbpkocmklbpaa.packetReads
