/- Proved: DayNext answers true for any arguments, whatever the world it is called in; no condition. -/
import Derived.Test.YtmhpkajjomgbhaaRows
import Derived.Test.YtmhpkajjomgbhaaK
import Derived.Test.YtmhpkajjomgbhaaF15
import Derived.WalkKit
import Derived.ProofKit
import Derived.OpenShut
import Derived.ShutString
set_option linter.unusedVariables false
set_option linter.unusedSimpArgs false
namespace Go.Proofs.Ytmhpkajjomgbhaa.dayNext
open Go.ChangeShapes Go.WideShapes Go.ChangeAt Go.RowKit
theorem own : ownKnob Try.prog.godebug = none := by kernel_rfl
noncomputable def G1 : Vq.VProg := Vq.vprog Try.prog ap ib keeps prims
theorem g1_ok : Vq.GOk Try.prog G1 := Vq.vprog_ok prims_ok
theorem g1_30 : G1 30 = some (.prim Vq.sortPrim) := rfl
theorem g1_22 : G1 22 = some (.prim Vq.compactPrim) := rfl
theorem g1_31 : G1 31 = some (.iter (Vq.valuesI false 1)) := rfl
theorem right : Vq.P1.HRight G1 := fun t => Vq.P1.dright G1 (by kernel_rfl) t
theorem rights (t : Int) : Vq.lim G1 18 [.int .i64 t] [] = some (.bool (Vq.P1.rightT t), []) := Vq.P1.rright G1 (by kernel_rfl) t
theorem ofs : Vq.P1.HOf G1 := fun t => Vq.P1.dof G1 (by kernel_rfl) right t
theorem told : Vq.P1.HTold G1 := fun t => Vq.P1.dtold G1 (by kernel_rfl) right t
theorem doorsB : Vq.P1.HDoors G1 := fun l hl => Vq.P1.ddoors G1 (by kernel_rfl) (fun t => Vq.P1.ddoor G1 (by kernel_rfl) t) l hl
theorem found : Vq.P1.HSearch G1 := fun l x h => Vq.P1.searchI G1 (by kernel_rfl) l x (Nat.lt_of_le_of_lt h.len (by decide)) (Vq.P1.search G1 (by kernel_rfl) l x (Nat.lt_of_le_of_lt h.len (by decide)) h.le fun i hi => Vq.P1.searchF G1 (by kernel_rfl) l x i hi (Nat.lt_of_le_of_lt h.len (by decide)))
theorem next : Vq.P1.HNext G1 := fun l hl t => Vq.P1.dnext G1 (by kernel_rfl) right told ofs found doorsB l hl t
theorem ends : Vq.P1.HEnd G1 := fun t => Vq.P1.dend G1 (by kernel_rfl) right told t
theorem passed : Vq.P1.HPassed G1 := fun l hl a b => Vq.P1.dpassed G1 (by kernel_rfl) right doorsB (fun l h t ht => Vq.P1.dbefore G1 (by kernel_rfl) ofs found l h t ht) l hl a b
theorem sorted (l : List Int) (hl : l.length < 2 ^ 44) : Vq.lim G1 23 [.func 31 [.iptr [.isl 0 1 (Vq.P1.iV l)]]] [] = some (.xsl 0 1 (Vq.P1.iV (Vq.P1.srt l)), []) :=
  Vq.P1.dsorted G1 (by kernel_rfl) g1_30 (fun l hl => Vq.P1.dcollect G1 (by kernel_rfl) (fun l hl => Vq.P1.dappend G1 (by kernel_rfl) g1_31 l hl) l hl) l hl
theorem drs : Vq.P1.HDrs G1 := fun l hl => Vq.P1.dDoors G1 (by kernel_rfl) g1_22 (fun l => Vq.P1.dvalues G1 (by kernel_rfl) l) sorted doorsB l hl
theorem same : Vq.P1.HSame G1 := fun l hl => Vq.P1.dsame G1 (by kernel_rfl) l hl
theorem alive : Vq.lim G1 9 [] [] = some (.bool true, []) := Vq.P1.dalive G1 (by kernel_rfl) drs next ofs same
theorem ints {v : Vq.V} (h : Vq.HasT Try.prog 22 v) : ∃ l : List Int, v = .isl 0 1 (Vq.P1.iV l) := by
  obtain ⟨es, rfl, _, hx⟩ := h.slice Try.underlying22
  obtain ⟨l, rfl, _⟩ := Vq.mapx (f := Vq.V.int .i64) (p := fun _ => True) (es := es) (fun x hx' => by
    obtain ⟨n, rfl, _⟩ := (hx x hx').int Try.underlying3
    exact ⟨n, rfl, trivial⟩)
  have hc : Try.prog.cellsOf 3 = 1 := by kernel_rfl
  rw [hc]
  exact ⟨l, rfl⟩
theorem runs (us : List Vq.V) (h : Vq.HasTs Try.prog [22, 2] us) : Vq.lim G1 4 us [] = some (.bool true, []) := by
  obtain ⟨v0, us, rfl, h0, h⟩ := h.inv
  obtain ⟨v1, us, rfl, h1, h⟩ := h.inv
  obtain rfl := h.inv_nil
  obtain ⟨l, rfl⟩ := ints h0
  obtain ⟨t, rfl, _⟩ := h1.int Try.underlying2
  exact Vq.P1.dayNext G1 (by kernel_rfl) alive next (fun l hl t => Vq.P1.rnext G1 (by kernel_rfl) rights (fun l hl => Vq.P1.rfits G1 (by kernel_rfl) l hl) (fun l hl t ht => Vq.P1.rcloses G1 (by kernel_rfl) l hl t ht) l hl t) ofs ends right rights l t

/-! ### the row's step -/
theorem types : Try.f4.params.toList = [22, 2] := by kernel_rfl
theorem argsOk : ((Try.f4.params.toList).all fun t => Vq.argT Try.prog 8 true t) = true := by kernel_rfl
set_option maxRecDepth 100000 in
theorem lifted (os : Os) (started : os.Started) (H : Type) (enc : TypeId × Value → H) :
    ReturnsInHanded {} Try.checked os 4 .any (Rows.dayNextSpec.pre6 enc Try.prog Try.f4 Rows.dayNextRow.domain false) (Rows.dayNextSpec.post enc Try.prog Try.f4 false true false false) := by
  refine returnsInHanded_of_change (C := Try.checked) own started (by kernel_rfl) Try.func4
    (ChangeSpec.witness6 (enc := enc) (C := Try.checked) false ⟨#[], #[.slice none 0 0, .int .i64 0], []⟩ 8 (by kernel_rfl) (by kernel_rfl) (by kernel_rfl) (by kernel_rfl)) ?_
  intro W base args ds gs before hval0 hW hcnd _
  have hval : ∀ (j : Nat) t v, Try.f4.params[j]? = some t → args[j]? = some v → Value.okWide Try.prog W .any base t v := hval0
  have hW' := hW
  obtain ⟨p, q, hA0, hV, rfl, hfz, hnd⟩ := hW
  have hA : DataW.TrodAll enc Try.prog W 0 (fun _ => true) true Try.f4.params.toList args.toList ds p := hA0
  obtain ⟨us, ha, ht⟩ := Vq.args_rel (fun t ht => ⟨8, List.all_eq_true.1 argsOk t ht⟩) hA (fun j t v h1 h2 => hval j t v (by simpa using h1) (by simpa using h2))
  rw [types] at ht
  obtain ⟨_, hrun⟩ := Vq.lim_ev (runs us ht)
  refine (Vq.true_walk_args (xs := args.toList) g1_ok (hrun _ (Nat.le_refl _)) W ha).mono fun e W' ⟨he, hg⟩ => ?_
  subst he
  exact ⟨_, rfl, Vq.post_args (tb := 4) 8 hW' hg argsOk rfl (fun l hl => by
    have hl' : l.length = [22, 2].length := by rw [← types]; simpa using hl
    clear hl
    match l, hl' with
    | [d0, d1], _ => rfl) (by kernel_rfl) Try.underlying4⟩

theorem over : Rows.dayNextRow.holds Try.pinned (OpenSpec.ofChange Rows.dayNextSpec) :=
  OpenClaim.holds_of_wide 4 Try.f4 rfl rfl rfl rfl rfl rfl rfl ⟨rfl, rfl, rfl, rfl, rfl⟩ rfl rfl rfl rfl rfl (by kernel_rfl) Try.func4 (by kernel_rfl)
    (of_decide_eq_true (by kernel_rfl)) (by unfold Func.isWrapper; first | (rw [if_pos (by decide +kernel)]; kernel_rfl) | (rw [if_neg (by decide +kernel)]; exact ⟨rfl, rfl⟩))
    (fun os started H enc _ => lifted os started H enc)

/-- ████ THE STATEMENT ████ -/
theorem proved : Rows.DayNextSaid :=
  over
#print axioms proved
end Go.Proofs.Ytmhpkajjomgbhaa.dayNext
