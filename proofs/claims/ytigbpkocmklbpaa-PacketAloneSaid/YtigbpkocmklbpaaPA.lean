/- Proved: PacketAlone answers true for any arguments, whatever the world it is called in; no condition. -/
import Derived.Test.YtigbpkocmklbpaaRows
import Derived.Test.YtigbpkocmklbpaaK
import Derived.Test.YtigbpkocmklbpaaQ
import Derived.WalkKit
import Derived.ProofKit
import Derived.OpenShut
import Derived.ShutString
set_option linter.unusedVariables false
set_option linter.unusedSimpArgs false
namespace Go.Proofs.Ytigbpkocmklbpaa.packetAlone
open Go.ChangeShapes Go.WideShapes Go.ChangeAt Go.RowKit
theorem own : ownKnob Try.prog.godebug = none := by kernel_rfl
/-- The program with the alive law run already. -/
noncomputable def G1 : Vq.VProg := Vq.vprog Try.prog ap ib keeps (Vq.more prims 31 (.prim Vq.truePrim))
theorem alive : Vq.isTrue (Vq.call G 200 31 [] []) = true := by kernel_rfl
theorem g1_ok : Vq.GOk Try.prog G1 := Vq.vprog_ok (Vq.more_ok prims_ok (Vq.truePrim_ok (Vq.vprog_ok prims_ok) alive))
theorem g1_31 : G1 31 = some (.prim Vq.truePrim) := rfl
theorem g1_53 : G1 53 = some (.prim (Vq.clonePrim 1 1)) := rfl
theorem clone (es : List Vq.V) (h : es.length ≤ 140737488355328) : Vq.lim G1 53 [.isl 0 1 es] [] = some (.xsl 0 1 es, []) := Vq.lim_prim g1_53 (by simp [Vq.clonePrim, h])
theorem fr_of {x : Vq.V} (h : Vq.HasT Try.prog 61 x) : ∃ a : Nat × List Nat, x = Vq.P1.fr a ∧ (a.1 < 256 ∧ ∀ y ∈ a.2, y < 256) := by
  obtain ⟨cs, rfl, hc⟩ := h.agg (by kernel_rfl)
  obtain ⟨c2, w2, rfl, hc2, hn2⟩ := hc.inv_struct Try.underlying61
  obtain rfl := hn2.inv_nil
  have hc3 : Vq.HasC Try.prog [5, 24] c2 := hc2
  obtain ⟨k, c4, rfl, hk, hc4⟩ := hc3.inv_int Try.underlying5
  obtain ⟨es, c5, rfl, _, hes, hc5⟩ := hc4.inv_slice Try.underlying24
  obtain rfl := hc5.inv_nil
  obtain ⟨ns, rfl, hns⟩ := Vq.mapx (f := Vq.V.int .u8) fun x hx => (hes x hx).int Try.underlying5
  obtain ⟨b, e1, hb⟩ := Vq.bytes_nat ns hns
  have hk' : 0 ≤ k ∧ k < 256 := by simp [Lit.wf, IntKind.min, IntKind.max, IntKind.signed, IntKind.bits] at hk; omega
  obtain ⟨k, rfl⟩ : ∃ n : Nat, k = n := ⟨k.toNat, by omega⟩
  rw [e1, show Try.prog.cellsOf 5 = 1 by kernel_rfl]
  exact ⟨(k, b), rfl, by simp only; omega, hb⟩
theorem halves (n : Nat) (hn : n < 2 ^ 32) : Vq.lim G1 55 [.int .u32 n, .int .i64 8] [] = some (.int .u32 (Vq.P1.halN 8 n : Nat), []) := Vq.P1.halves G1 (by kernel_rfl) n hn
theorem of1 (l : List Nat) (hl : l.length < 2 ^ 40) (hb : ∀ x ∈ l, x < 256) : Vq.lim G1 49 [.isl 0 1 [.isl 0 1 (Vq.byN l)]] [] = some (.int .u32 (Vq.P1.crc l : Nat), []) := Vq.P1.of1 G1 (by kernel_rfl) halves l hl hb
theorem number (l : List Nat) (hl : l.length < 2 ^ 40) (hb : ∀ x ∈ l, x < 256) : Vq.lim G1 52 [.isl 0 1 (Vq.byN l), .int .u64 65536] [] = some (.tup [.int .u64 (Vq.P1.dec 65536 0 0 l).1, .int .i64 (Vq.P1.dec 65536 0 0 l).2], []) := Vq.P1.number G1 (by kernel_rfl) l 65536 hl hb (by decide)
theorem opens (b : List Nat) (hb : ∀ x ∈ b, x < 256) (hl : b.length < 2 ^ 31) : Vq.lim G1 34 [.isl 0 1 (Vq.byN b)] [] = some (Vq.P1.openV (Vq.P1.openN b), []) := Vq.P1.Open G1 (by kernel_rfl) number of1 clone b hb hl
theorem frame (k : Nat) (body : List Nat) (hk : k < 256) (hb : ∀ x ∈ body, x < 256) (hl : body.length ≤ 65536) : Vq.lim G1 32 [.agg [.int .u8 k, .isl 0 1 (Vq.byN body)]] [] = some (.tup [.fsl 0 1 (Vq.byN (Vq.P1.frameN k body)), .int .i64 0], []) :=
  Vq.P1.Frame G1 (by kernel_rfl) (fun b ns hn hl hb => Vq.P1.Number G1 (by kernel_rfl) clone b ns hn hl hb) of1 k hk body hb hl
theorem runs (us : List Vq.V) (h : Vq.HasTs Try.prog [24, 69] us) : Vq.lim G1 9 us [] = some (.bool true, []) := by
  obtain ⟨v0, us, rfl, h0, h⟩ := h.inv
  obtain ⟨v1, us, rfl, h1, h⟩ := h.inv
  obtain rfl := h.inv_nil
  obtain ⟨ns, rfl, hns⟩ := h0.ints Try.underlying24 Try.underlying5 (by kernel_rfl)
  obtain ⟨b, e1, hb⟩ := Vq.bytes_nat ns hns
  rw [e1]
  obtain ⟨es, rfl, _, hes⟩ := h1.slice Try.underlying69
  rw [show Try.prog.cellsOf 61 = 2 by kernel_rfl]
  obtain ⟨l, rfl, hl⟩ := Vq.mapx (f := Vq.P1.fr) fun x hx => fr_of (hes x hx)
  exact Vq.P1.alone0 G1 (by kernel_rfl) (Vq.lim_prim g1_31 rfl) opens frame b hb l hl

/-! ### the row's step -/
theorem types : Try.f9.params.toList = [24, 69] := by kernel_rfl
theorem argsOk : ((Try.f9.params.toList).all fun t => Vq.argT Try.prog 8 true t) = true := by kernel_rfl
set_option maxRecDepth 100000 in
theorem lifted (os : Os) (started : os.Started) (H : Type) (enc : TypeId × Value → H) :
    ReturnsInHanded {} Try.checked os 9 .any (Rows.packetAloneSpec.pre6 enc Try.prog Try.f9 Rows.packetAloneRow.domain false) (Rows.packetAloneSpec.post enc Try.prog Try.f9 false true false false) := by
  refine returnsInHanded_of_change (C := Try.checked) own started (by kernel_rfl) Try.func9
    (ChangeSpec.witness6 (enc := enc) (C := Try.checked) false ⟨#[], #[.slice none 0 0, .slice none 0 0], []⟩ 8 (by kernel_rfl) (by kernel_rfl) (by kernel_rfl) (by kernel_rfl)) ?_
  intro W base args ds gs before hval0 hW hcnd _
  have hval : ∀ (j : Nat) t v, Try.f9.params[j]? = some t → args[j]? = some v → Value.okWide Try.prog W .any base t v := hval0
  have hW' := hW
  obtain ⟨p, q, hA0, hV, rfl, hfz, hnd⟩ := hW
  have hA : DataW.TrodAll enc Try.prog W 0 (fun _ => true) true Try.f9.params.toList args.toList ds p := hA0
  obtain ⟨us, ha, ht⟩ := Vq.args_rel (fun t ht => ⟨8, List.all_eq_true.1 argsOk t ht⟩) hA (fun j t v h1 h2 => hval j t v (by simpa using h1) (by simpa using h2))
  rw [types] at ht
  obtain ⟨_, hrun⟩ := Vq.lim_ev (runs us ht)
  refine (Vq.true_walk_args (xs := args.toList) g1_ok (hrun _ (Nat.le_refl _)) W ha).mono fun e W' ⟨he, hg⟩ => ?_
  subst he
  exact ⟨_, rfl, Vq.post_args (tb := 4) 8 hW' hg argsOk rfl (fun l hl => by
    have hl' : l.length = [24, 69].length := by rw [← types]; simpa using hl
    clear hl
    match l, hl' with
    | [d0, d1], _ => rfl) (by kernel_rfl) Try.underlying4⟩

theorem over : Rows.packetAloneRow.holds Try.pinned (OpenSpec.ofChange Rows.packetAloneSpec) :=
  OpenClaim.holds_of_wide 9 Try.f9 rfl rfl rfl rfl rfl rfl rfl ⟨rfl, rfl, rfl, rfl, rfl⟩ rfl rfl rfl rfl rfl (by kernel_rfl) Try.func9 (by kernel_rfl)
    (of_decide_eq_true (by kernel_rfl)) (by unfold Func.isWrapper; first | (rw [if_pos (by decide +kernel)]; kernel_rfl) | (rw [if_neg (by decide +kernel)]; exact ⟨rfl, rfl⟩))
    (fun os started H enc _ => lifted os started H enc)

/-- ████ THE STATEMENT ████ -/
theorem proved : Rows.PacketAloneSaid :=
  over
#print axioms proved
end Go.Proofs.Ytigbpkocmklbpaa.packetAlone
