/- Proved: DayNames answers true for any arguments, whatever the world it is called in; no condition. -/
import Derived.Test.YtmhpkajjomgbhaaRows
import Derived.Test.YtmhpkajjomgbhaaK
import Derived.Test.YtmhpkajjomgbhaaF15
import Derived.WalkKit
import Derived.ProofKit
import Derived.OpenShut
import Derived.ShutString
set_option linter.unusedVariables false
set_option linter.unusedSimpArgs false
namespace Go.Proofs.Ytmhpkajjomgbhaa.dayNames
open Go.ChangeShapes Go.WideShapes Go.ChangeAt Go.RowKit
theorem own : ownKnob Try.prog.godebug = none := by kernel_rfl
noncomputable def G1 : Vq.VProg := Vq.vprog Try.prog ap ib keeps prims
theorem g1_ok : Vq.GOk Try.prog G1 := Vq.vprog_ok prims_ok
theorem g1_30 : G1 30 = some (.prim Vq.sortPrim) := rfl
theorem g1_22 : G1 22 = some (.prim Vq.compactPrim) := rfl
theorem g1_31 : G1 31 = some (.iter (Vq.valuesI false 1)) := rfl
theorem right : Vq.P1.HRight G1 := fun t => Vq.P1.dright G1 (by kernel_rfl) t
theorem rights (t : Int) : Vq.lim G1 18 [.int .i64 t] [] = some (.bool (Vq.P1.rightT t), []) := Vq.P1.rright G1 (by kernel_rfl) t
theorem ofs : Vq.P1.HOf G1 := fun t => Vq.P1.dof G1 (by kernel_rfl) right t
theorem told : Vq.P1.HTold G1 := fun t => Vq.P1.dtold G1 (by kernel_rfl) right t
theorem doorsB : Vq.P1.HDoors G1 := fun l hl => Vq.P1.ddoors G1 (by kernel_rfl) (fun t => Vq.P1.ddoor G1 (by kernel_rfl) t) l hl
theorem found : Vq.P1.HSearch G1 := fun l x h => Vq.P1.searchI G1 (by kernel_rfl) l x (Nat.lt_of_le_of_lt h.len (by decide)) (Vq.P1.search G1 (by kernel_rfl) l x (Nat.lt_of_le_of_lt h.len (by decide)) h.le fun i hi => Vq.P1.searchF G1 (by kernel_rfl) l x i hi (Nat.lt_of_le_of_lt h.len (by decide)))
theorem next : Vq.P1.HNext G1 := fun l hl t => Vq.P1.dnext G1 (by kernel_rfl) right told ofs found doorsB l hl t
theorem ends : Vq.P1.HEnd G1 := fun t => Vq.P1.dend G1 (by kernel_rfl) right told t
theorem passed : Vq.P1.HPassed G1 := fun l hl a b => Vq.P1.dpassed G1 (by kernel_rfl) right doorsB (fun l h t ht => Vq.P1.dbefore G1 (by kernel_rfl) ofs found l h t ht) l hl a b
theorem sorted (l : List Int) (hl : l.length < 2 ^ 44) : Vq.lim G1 23 [.func 31 [.iptr [.isl 0 1 (Vq.P1.iV l)]]] [] = some (.xsl 0 1 (Vq.P1.iV (Vq.P1.srt l)), []) :=
  Vq.P1.dsorted G1 (by kernel_rfl) g1_30 (fun l hl => Vq.P1.dcollect G1 (by kernel_rfl) (fun l hl => Vq.P1.dappend G1 (by kernel_rfl) g1_31 l hl) l hl) l hl
theorem drs : Vq.P1.HDrs G1 := fun l hl => Vq.P1.dDoors G1 (by kernel_rfl) g1_22 (fun l => Vq.P1.dvalues G1 (by kernel_rfl) l) sorted doorsB l hl
theorem same : Vq.P1.HSame G1 := fun l hl => Vq.P1.dsame G1 (by kernel_rfl) l hl
theorem alive : Vq.lim G1 9 [] [] = some (.bool true, []) := Vq.P1.dalive G1 (by kernel_rfl) drs next ofs same
theorem ints {v : Vq.V} (h : Vq.HasT Try.prog 22 v) : ∃ l : List Int, v = .isl 0 1 (Vq.P1.iV l) := by
  obtain ⟨es, rfl, _, hx⟩ := h.slice Try.underlying22
  obtain ⟨l, rfl, _⟩ := Vq.mapx (f := Vq.V.int .i64) (p := fun _ => True) (es := es) (fun x hx' => by
    obtain ⟨n, rfl, _⟩ := (hx x hx').int Try.underlying3
    exact ⟨n, rfl, trivial⟩)
  have hc : Try.prog.cellsOf 3 = 1 := by kernel_rfl
  rw [hc]
  exact ⟨l, rfl⟩
theorem runs : Vq.lim G1 8 [] [] = some (.bool true, []) := Vq.P1.dnames G1 (by kernel_rfl) alive drs next passed ends

theorem walk (w : World) : Calls Try.prog 8 #[] w fun e w' => e = .returned (.bool true) ∧ Vq.Still w w' := by
  obtain ⟨_, hrun⟩ := Vq.lim_ev runs
  exact Vq.true_walk g1_ok (hrun _ (Nat.le_refl _)) w

set_option maxRecDepth 100000 in
theorem lifted (os : Os) (started : os.Started) (H : Type) (enc : TypeId × Value → H) :
    ReturnsInHanded {} Try.checked os 8 .any (Rows.dayNamesSpec.pre6 enc Try.prog Try.f8 Rows.dayNamesRow.domain false) (Rows.dayNamesSpec.post enc Try.prog Try.f8 false true false false) := by
  refine returnsInHanded_of_change (C := Try.checked) own started (by kernel_rfl) Try.func8
    (ChangeSpec.witness6 (enc := enc) (C := Try.checked) false ⟨#[], #[], []⟩ 8 (by kernel_rfl) (by kernel_rfl) (by kernel_rfl) (by kernel_rfl)) ?_
  intro W base args ds gs before hval0 hW hcnd _
  have hval : ∀ (j : Nat) t v, Try.f8.params[j]? = some t → args[j]? = some v → Value.okWide Try.prog W .any base t v := hval0
  have hW' := hW
  obtain ⟨p, q, hA0, hV, rfl, hfz, hnd⟩ := hW
  have hA : DataW.TrodAll enc Try.prog W 0 (fun _ => true) true Try.f8.params.toList args.toList ds p := hA0
  rw [Try.params8] at hA hval
  obtain ⟨rfl, rfl, rfl⟩ := trodAll_none hA
  obtain ⟨rfl, rfl⟩ := trodVars_none hV
  clear hA0 hval0
  simp only [List.append_nil] at hW'
  refine (walk  W).mono fun e W' ⟨he, hg⟩ => ?_
  subst he
  exact ⟨_, rfl, Vq.post_still (pa := []) (pv := []) hW' (fun _ _ _ => (trodAll_cons_mk (shut_bool Try.underlying4 _) trodAll_mk0)) (fun sp _ => rfl) (fun _ _ => rfl) rfl
    hg (ok_one (by kernel_rfl) rfl (okWide_bool_mk Try.underlying4 _))⟩

theorem over : Rows.dayNamesRow.holds Try.pinned (OpenSpec.ofChange Rows.dayNamesSpec) :=
  OpenClaim.holds_of_wide 8 Try.f8 rfl rfl rfl rfl rfl rfl rfl ⟨rfl, rfl, rfl, rfl, rfl⟩ rfl rfl rfl rfl rfl (by kernel_rfl) Try.func8 (by kernel_rfl)
    (of_decide_eq_true (by kernel_rfl)) (by unfold Func.isWrapper; first | (rw [if_pos (by decide +kernel)]; kernel_rfl) | (rw [if_neg (by decide +kernel)]; exact ⟨rfl, rfl⟩))
    (fun os started H enc _ => lifted os started H enc)

/-- ████ THE STATEMENT ████ -/
theorem proved : Rows.DayNamesSaid :=
  over
#print axioms proved
end Go.Proofs.Ytmhpkajjomgbhaa.dayNames
