/- Proved: MarksRun answers true for any arguments, whatever the world it is called in; no condition. -/
import Derived.Test.YtbbpandancpibaaRows
import Derived.Test.YtbbpandancpibaaK
import Derived.Test.YtbbpandancpibaaP
import Derived.WalkKit
import Derived.ProofKit
import Derived.OpenShut
import Derived.ShutString
set_option linter.unusedVariables false
set_option linter.unusedSimpArgs false
namespace Go.Proofs.Ytbbpandancpibaa.marksRun
open Go.ChangeShapes Go.WideShapes Go.ChangeAt Go.RowKit
theorem own : ownKnob Try.prog.godebug = none := by kernel_rfl
/-- The program with the alive law run already. -/
noncomputable def G1 : Vq.VProg := Vq.vprog Try.prog ap ib keeps (Vq.more prims 12 (.prim Vq.truePrim))
theorem alive : Vq.isTrue (Vq.call G 200 12 [] []) = true := by kernel_rfl
theorem g1_ok : Vq.GOk Try.prog G1 := Vq.vprog_ok (Vq.more_ok prims_ok (Vq.truePrim_ok (Vq.vprog_ok prims_ok) alive))
theorem g1_12 : G1 12 = some (.prim Vq.truePrim) := rfl
theorem g1_51 : G1 51 = some (.prim (Vq.clonePrim 1 1)) := rfl
theorem g1_80 : G1 80 = some (.iter (Vq.backwardI true 65)) := rfl
theorem g1_88 : G1 88 = some (.iter (Vq.backwardI false 1)) := rfl
theorem clone (es : List Vq.V) (h : es.length ≤ 140737488355328) : Vq.lim G1 51 [.isl 0 1 es] [] = some (.xsl 0 1 es, []) := Vq.lim_prim g1_51 (by simp [Vq.clonePrim, h])
theorem marks : Vq.P1.Marks G1 := Vq.P1.marks_ok G1 clone (by kernel_rfl) (by kernel_rfl) (by kernel_rfl) (by kernel_rfl) (by kernel_rfl) (by kernel_rfl) g1_80 (by kernel_rfl) (by kernel_rfl) g1_88 (by kernel_rfl) (by kernel_rfl) (by kernel_rfl) (by kernel_rfl) (by kernel_rfl) (by kernel_rfl) (by kernel_rfl) (by kernel_rfl)
theorem duo : Vq.P1.Duo2 G1 := by
  have hpow : Vq.P1.Hpow G1 := fun es ls off left lj hl => Vq.P1.power G1 (by kernel_rfl) es ls off left lj hl
  have hthere := Vq.P1.there G1 (by kernel_rfl)
  have hspend := Vq.P1.spend G1 (by kernel_rfl)
  have hroom := Vq.P1.rroom G1 (by kernel_rfl)
  have hnum := Vq.P1.rnumber G1 (by kernel_rfl)
  have hmark := Vq.P1.rmark G1 (by kernel_rfl) hnum
  have hcell := fun (r a : Nat) (hr : r ≤ 2 ^ 40) (ha : a < 2 ^ 30) (l : List Nat) (hl : l.length ≤ 48) => Vq.P1.rcell G1 (by kernel_rfl) r a hr ha l hl
  have hrput := fun (i : Int) (c : List Nat) (hc : c.length = 64) (es ls off left lj) (he : ∀ c ∈ es, c.length = 64) (hw : ∀ w ∈ ls, w.2.length = 64) (hb : ls.length < 2 ^ 30) (hl : Vq.P1.LR left) => Vq.P1.rput G1 (by kernel_rfl) hpow i c hc es ls off left lj he hw hb hl
  refine { m := marks, same := ?_, rread := ?_, rtop := ?_, rroom := hroom, put := ?_, rput := hrput, flush := ?_, rflush := ?_, limit := ?_, rlimit := ?_, fail := ?_, rfail := ?_, rput8 := ?_, raw := ?_ }
  · exact fun l hl => Vq.P1.lsame G1 (by kernel_rfl) l hl
  · exact fun side es ls off left lj h => Vq.P1.rread G1 (by kernel_rfl) hroom hmark hcell side es ls off left lj h
  · exact fun es ls off left lj h => Vq.P1.rtop G1 (by kernel_rfl) hnum es ls off left lj h
  · exact fun i c hc es fz ls off left hb hl => Vq.P1.put G1 (by kernel_rfl) hthere hspend i c hc es fz ls off left hb hl
  · exact fun es fz ls off left he hw hb hl => Vq.P1.flush G1 (by kernel_rfl) hspend es fz ls off left he hw hb hl
  · exact fun es ls off left lj hb hl => Vq.P1.rflush G1 (by kernel_rfl) hpow es ls off left lj hb hl
  · exact fun i es fz ls off left => Vq.P1.limit G1 (by kernel_rfl) i es fz ls off left
  · exact fun i es ls off left lj => Vq.P1.rlimit G1 (by kernel_rfl) i es ls off left lj
  · exact fun kp torn at' es fz ls off left he hl hn => Vq.P1.fail G1 (by kernel_rfl) kp torn at' es fz ls off left he hl hn
  · exact fun kp hk torn at' es ls off left lj he hl hn hb => Vq.P1.rfail G1 (by kernel_rfl) kp hk torn at' es ls off left lj he hl hn hb
  · exact fun side r at' inner es ls off left lj he hw hn hl hb hr => Vq.P1.rput8 G1 (by kernel_rfl) hroom hcell hrput side r at' inner es ls off left lj he hw hn hl hb hr
  · exact fun b hb => Vq.P1.lraw G1 (by kernel_rfl) b hb
theorem act_of {x : Vq.V} (h : Vq.HasT Try.prog 39 x) : ∃ a : Vq.P1.ActM, x = Vq.P1.actV a ∧ (a.at' < 9223372036854775808 ∧ a.r < 2 ^ 64 ∧ ∀ y ∈ a.inner, y < 256) := by
  obtain ⟨cs, rfl, hc⟩ := h.agg (by kernel_rfl)
  obtain ⟨c2, w2, rfl, hc2, hn2⟩ := hc.inv_struct Try.underlying39
  obtain rfl := hn2.inv_nil
  have hc3 : Vq.HasC Try.prog [3, 3, 3, 3, 25, 31] c2 := hc2
  obtain ⟨k, _, rfl, _, hc3⟩ := hc3.inv_int Try.underlying3
  obtain ⟨side, _, rfl, _, hc3⟩ := hc3.inv_int Try.underlying3
  obtain ⟨at', _, rfl, hat, hc3⟩ := hc3.inv_int Try.underlying3
  obtain ⟨torn, _, rfl, _, hc3⟩ := hc3.inv_int Try.underlying3
  obtain ⟨r, _, rfl, hr, hc3⟩ := hc3.inv_int Try.underlying25
  obtain ⟨es, _, rfl, _, hes, hc3⟩ := hc3.inv_slice Try.underlying31
  obtain rfl := hc3.inv_nil
  obtain ⟨ns, rfl, hns⟩ := Vq.mapx (f := Vq.V.int .u8) fun x hx => (hes x hx).int Try.underlying5
  obtain ⟨b, e1, hb⟩ := Vq.bytes_nat ns hns
  have hr' : 0 ≤ r ∧ r < 18446744073709551616 := by simp [Lit.wf, IntKind.min, IntKind.max, IntKind.signed, IntKind.bits] at hr; omega
  have hat' : at' < 9223372036854775808 := by simp [Lit.wf, IntKind.min, IntKind.max, IntKind.signed, IntKind.bits] at hat; omega
  obtain ⟨r, rfl⟩ : ∃ n : Nat, r = n := ⟨r.toNat, by omega⟩
  rw [e1, show Try.prog.cellsOf 5 = 1 by kernel_rfl]
  exact ⟨⟨k, side, at', torn, r, b⟩, rfl, hat', by simp only; omega, hb⟩
theorem runs (us : List Vq.V) (h : Vq.HasTs Try.prog [3, 35] us) : Vq.lim G1 5 us [] = some (.bool true, []) := by
  obtain ⟨v0, us, rfl, h0, h⟩ := h.inv
  obtain ⟨v1, us, rfl, h1, h⟩ := h.inv
  obtain rfl := h.inv_nil
  obtain ⟨n, rfl, _⟩ := h0.int Try.underlying3
  obtain ⟨es, rfl, _, hes⟩ := h1.slice Try.underlying35
  rw [show Try.prog.cellsOf 39 = 6 by kernel_rfl]
  obtain ⟨acts, rfl, ha⟩ := Vq.mapx (f := Vq.P1.actV) fun x hx => act_of (hes x hx)
  exact Vq.P1.marksRun (by kernel_rfl) (Vq.lim_prim g1_12 rfl) (fun n => Vq.P1.pnew G1 (by kernel_rfl) n) (fun n => Vq.P1.rnew G1 (by kernel_rfl) n) duo n acts ha

/-! ### the row's step -/
theorem types : Try.f5.params.toList = [3, 35] := by kernel_rfl
theorem argsOk : ((Try.f5.params.toList).all fun t => Vq.argT Try.prog 8 true t) = true := by kernel_rfl
set_option maxRecDepth 100000 in
theorem lifted (os : Os) (started : os.Started) (H : Type) (enc : TypeId × Value → H) :
    ReturnsInHanded {} Try.checked os 5 .any (Rows.marksRunSpec.pre6 enc Try.prog Try.f5 Rows.marksRunRow.domain false) (Rows.marksRunSpec.post enc Try.prog Try.f5 false true false false) := by
  refine returnsInHanded_of_change (C := Try.checked) own started (by kernel_rfl) Try.func5
    (ChangeSpec.witness6 (enc := enc) (C := Try.checked) false ⟨#[], #[.int .i64 0, .slice none 0 0], []⟩ 8 (by kernel_rfl) (by kernel_rfl) (by kernel_rfl) (by kernel_rfl)) ?_
  intro W base args ds gs before hval0 hW hcnd _
  have hval : ∀ (j : Nat) t v, Try.f5.params[j]? = some t → args[j]? = some v → Value.okWide Try.prog W .any base t v := hval0
  have hW' := hW
  obtain ⟨p, q, hA0, hV, rfl, hfz, hnd⟩ := hW
  have hA : DataW.TrodAll enc Try.prog W 0 (fun _ => true) true Try.f5.params.toList args.toList ds p := hA0
  obtain ⟨us, ha, ht⟩ := Vq.args_rel (fun t ht => ⟨8, List.all_eq_true.1 argsOk t ht⟩) hA (fun j t v h1 h2 => hval j t v (by simpa using h1) (by simpa using h2))
  rw [types] at ht
  obtain ⟨_, hrun⟩ := Vq.lim_ev (runs us ht)
  refine (Vq.true_walk_args (xs := args.toList) g1_ok (hrun _ (Nat.le_refl _)) W ha).mono fun e W' ⟨he, hg⟩ => ?_
  subst he
  exact ⟨_, rfl, Vq.post_args (tb := 4) 8 hW' hg argsOk rfl (fun l hl => by
    have hl' : l.length = [3, 35].length := by rw [← types]; simpa using hl
    clear hl
    match l, hl' with
    | [d0, d1], _ => rfl) (by kernel_rfl) Try.underlying4⟩

theorem over : Rows.marksRunRow.holds Try.pinned (OpenSpec.ofChange Rows.marksRunSpec) :=
  OpenClaim.holds_of_wide 5 Try.f5 rfl rfl rfl rfl rfl rfl rfl ⟨rfl, rfl, rfl, rfl, rfl⟩ rfl rfl rfl rfl rfl (by kernel_rfl) Try.func5 (by kernel_rfl)
    (of_decide_eq_true (by kernel_rfl)) (by unfold Func.isWrapper; first | (rw [if_pos (by decide +kernel)]; kernel_rfl) | (rw [if_neg (by decide +kernel)]; exact ⟨rfl, rfl⟩))
    (fun os started H enc _ => lifted os started H enc)

/-- ████ THE STATEMENT ████ -/
theorem proved : Rows.MarksRunSaid :=
  over
#print axioms proved
end Go.Proofs.Ytbbpandancpibaa.marksRun
