/- The V-level machine, run on values that are not known (no law of Go is stated here). -/
import Derived.Test.YtigbpkocmklbpaaL1
import Derived.KernelRfl
set_option linter.unusedVariables false
set_option linter.unusedSimpArgs false
set_option linter.unusedSectionVars false
namespace Go.Vq
namespace L1
open Go
set_option maxRecDepth 1000000
set_option maxHeartbeats 4000000
section
variable (G : VProg)
theorem back47 (hG47 : G 47 = some (.code v47)) (es : List V) (m : Nat) (hm : 1 ≤ m) : call G m 47 [.isl 0 65 es] [] = some (.func 54 [.iptr [.isl 0 65 es]], []) := by
  (refine Vq.call_Wx (fn := v47) (body := b47) hG47 (by omega) ⟨rfl, by decide⟩ rfl (by (try simp only [Vq.start, List.length_cons, List.length_nil, List.map_cons, List.map_nil, List.cons_append, List.nil_append, List.replicate_succ, List.replicate_zero, Nat.reduceAdd, Nat.reduceSub, v47]); exact rfl) (by (try simp only [List.length_cons, List.length_nil, Nat.reduceAdd, Nat.zero_add]); exact rfl) (fun m hm => ?_); unfold b47; (repeat' (first | (with_reducible apply Vq.WO_nil) | ((with_reducible apply Vq.WO_cons); (· first | exact rfl); (try simp only [z1, z2, z3, z4, z5, z6, z7, z8, z9, z10, z11, z12, z13, z14, z15, z16, z17, z18, List.length_map, V.withLeaves, V.borrow, zero1, freeze1, borrows, borrow1, V.leaves, V.nextg, Nat.reduceAdd, Nat.reduceSub, layTup, obj1, splice, Bool.false_eq_true, if_true, if_false, Bool.not_true, Bool.not_false, Vq.take_mapl, Int.toNat_natCast, Int.toNat_zero, Nat.add_zero, Nat.sub_zero, Nat.zero_add, Int.reduceToNat])) | (with_reducible first | apply Vq.W_seq | apply Vq.W_region | apply Vq.Qs_n | apply Vq.W_skip | apply Vq.W_ret | apply Vq.W_exit | apply Vq.W_block | apply Vq.Qs_r | apply Vq.Qs_e | apply Vq.Qb_n0 | apply Vq.Qb_x0 | apply Vq.Qb_r) | ((with_reducible apply Vq.Qb_ne); (· decide)) | ((with_reducible apply Vq.W_condT); (· exact rfl)) | ((with_reducible apply Vq.W_condF); (· exact rfl)) | ((first | ((with_reducible apply Vq.W_condD); (· exact rfl)) | ((with_reducible apply Vq.W_cond); (· exact rfl))); all_goals (intro hq; (try simp only [hq]))))))
  first | (refine Vq.Qe_r ?_; first | kernel_rfl | exact rfl) | (refine Vq.Qe_n ?_; first | kernel_rfl | exact rfl)
def zero64 : List Nat := List.replicate 64 0
theorem new15 (hG15 : G 15 = some (.code v15)) (n : Int) (m : Nat) (hm : 1 ≤ m) : call G m 15 [.int .i64 n] [] = some (p0, [plateO (List.replicate (max 0 (min n 4096)).toNat zero64) false [] false (-1)]) := by
  have e : (if (if (4096 : Int) < n then (4096 : Int) else n) > 0 then (if (4096 : Int) < n then (4096 : Int) else n) else 0) = max 0 (min n 4096) := by split <;> split <;> omega
  obtain ⟨k, hk⟩ : ∃ k : Nat, max 0 (min n 4096) = (k : Int) := ⟨(max 0 (min n 4096)).toNat, by omega⟩
  have hk2 : k ≤ 4096 := by omega
  have ez : V.agg (Z8 64) = cellV zero64 := by unfold zero64; rw [byN_rep]
  rw [hk, Int.toNat_natCast]
  rw [hk] at e
  (refine Vq.call_Wx (fn := v15) (body := b15) hG15 (by omega) ⟨rfl, by decide⟩ rfl (by (try simp only [Vq.start, List.length_cons, List.length_nil, List.map_cons, List.map_nil, List.cons_append, List.nil_append, List.replicate_succ, List.replicate_zero, Nat.reduceAdd, Nat.reduceSub, v15]); exact rfl) (by (try simp only [List.length_cons, List.length_nil, Nat.reduceAdd, Nat.zero_add]); exact rfl) (fun m hm => ?_); unfold b15; (refine Vq.runO (And.intro e (And.intro ez trivial)) trivial ?_))
  first | (refine Vq.Qe_r ?_; (try simp only [plateO, List.map_replicate]); first | kernel_rfl | exact rfl) | (refine Vq.Qe_n ?_; (try simp only [plateO, List.map_replicate]); first | kernel_rfl | exact rfl)
/-- What was written last. -/
def find (ls : List (Nat × List Nat)) (i : Int) : Option (List Nat) := (ls.reverse.find? fun w => decide ((w.1 : Int) = i)).map (·.2)
def S20 (i : Int) (es : List (List Nat)) (ls : List (Nat × List Nat)) (off : Bool) (left : Int) : St := ⟨(p0 :: .gone 0 :: .gone 0 :: .ptr (.obj 1 0) :: .ptr (.obj 2 0) :: .ptr (.obj 3 0) :: .gone 0 :: .gone 0 :: .gone 0 :: .gone 0 :: .gone 0 :: .gone 0 :: .gone 0 :: .gone 0 :: .gone 0 :: .gone 0 :: .gone 0 :: .gone 0 :: .gone 0 :: .gone 0 :: .gone 0 :: .gone 0 :: .gone 0 :: .gone 0 :: .gone 0 :: .gone 0 :: .gone 0 :: .gone 0 :: .gone 0 :: .gone 0 :: .gone 0 :: .gone 0 :: .gone 0 :: []), [some (plateO es true ls off left), some (.cells [.int .i64 i]), some (.cells (Z8 64)), some (.cells [.int .i64 0]), none, none, none, none, none]⟩
def rb20 : VCode × VCode := match b20 with | .seq _ (.seq _ (.seq (.seq _ (.block _ _ (.range _ _ _ _ a b))) _)) => (a, b) | _ => (.skip, .skip)
theorem xs20 (ls : List (Nat × List Nat)) (k : Nat) (h : k < ls.length) (h' : k < ((idxV ((ls.map writeV).map (fixE true))).reverse).length) :
    ((idxV ((ls.map writeV).map (fixE true))).reverse)[k] = [.int .i64 ((ls.length - 1 - k : Nat) : Int), writeV ls[ls.length - 1 - k]] := by
  rw [List.getElem_reverse]
  simp [idxV, fixE, V.cells]
theorem round20 (i : Int) (es ls off left) (hl : ∀ w ∈ ls, w.2.length = 64) (k m : Nat) (x : List V) (w : Nat × List Nat) (hw : w.2.length = 64) (hx : x = [.int .i64 ((ls.length - 1 - k : Nat) : Int), writeV w]) (J : Prop) (Q : Out → St → Prop)
    (h1 : (w.1 : Int) ≠ i → J)
    (h2 : (w.1 : Int) = i → Q .ret ⟨(p0 :: .gone 0 :: .gone 0 :: .ptr (.obj 1 0) :: .ptr (.obj 2 0) :: .ptr (.obj 3 0) :: .gone 0 :: .gone 0 :: .gone 0 :: .gone 0 :: .gone 0 :: .gone 0 :: .gone 0 :: .gone 0 :: .gone 0 :: .gone 0 :: .gone 0 :: .gone 0 :: .gone 0 :: .gone 0 :: .gone 0 :: .gone 0 :: .gone 0 :: .gone 0 :: .gone 0 :: .gone 0 :: .gone 0 :: .gone 0 :: .gone 0 :: .gone 0 :: .gone 0 :: .gone 0 :: .gone 0 :: []), [some (plateO es true ls off left), some (.cells [.int .i64 i]), some (.cells (byN w.2)), some (.cells [.int .i64 0]), none, none, none, none, none]⟩) :
    W (call G m) (itersOf G) (exec G m) 8 rb20.1 (setPs [18, 19] x (S20 i es ls off left)) (QsN (call G m) (itersOf G) (exec G m) 8 rb20.2 (Qit 8 (S20 i es ls off left).slots (S20 i es ls off left) J Q)) := by
  subst hx
  obtain ⟨a, c⟩ := w
  simp only at hw h1 h2
  unfold rb20 b20 S20 setPs
  simp only [List.zip_cons_cons, List.zip_nil_right, List.foldl_cons, List.foldl_nil, List.set_cons_succ, List.set_cons_zero]
  (refine Vq.runO (And.intro hw (And.intro (take_by hw) trivial)) trivial ?_)
  refine QsN_n ?_
  by_cases he : (a : Int) = i
  · have he' : ((a : Int) == i) = true := by simpa using he
    (refine Vq.runO (And.intro hw (And.intro (take_by hw) (And.intro (drop_by hw) (And.intro he' trivial)))) trivial ?_)
    refine Qi_r (τ := ⟨(p0 :: .gone 0 :: .gone 0 :: .ptr (.obj 1 0) :: .ptr (.obj 2 0) :: .ptr (.obj 3 0) :: .gone 0 :: .gone 0 :: .gone 0 :: .gone 0 :: .gone 0 :: .gone 0 :: .gone 0 :: .gone 0 :: .gone 0 :: .gone 0 :: .gone 0 :: .gone 0 :: .gone 0 :: .gone 0 :: .gone 0 :: .gone 0 :: .gone 0 :: .gone 0 :: .gone 0 :: .gone 0 :: .gone 0 :: .gone 0 :: .gone 0 :: .gone 0 :: .gone 0 :: .gone 0 :: .gone 0 :: []), [some (plateO es true ls off left), some (.cells [.int .i64 i]), some (.cells (byN c)), some (.cells [.int .i64 0]), none, none, none, none, none]⟩) ?_ (h2 he)
    obtain ⟨g, rfl⟩ := exN hw
    kernel_rfl
  · have he' : ((a : Int) == i) = false := by simpa using he
    (refine Vq.runO (And.intro hw (And.intro (take_by hw) (And.intro (drop_by hw) (And.intro he' trivial)))) trivial ?_)
    refine Qi_n ?_ (h1 he)
    obtain ⟨g, rfl⟩ := exN hw
    kernel_rfl
theorem find_at (ls : List (Nat × List Nat)) (i : Int) (k : Nat) (hk : k < ls.length) (he : (ls[k].1 : Int) = i) (hn : ∀ j (h : j < ls.length), k < j → (ls[j].1 : Int) ≠ i) : find ls i = some ls[k].2 := by
  unfold find
  have : ls.reverse.find? (fun w => decide ((w.1 : Int) = i)) = some ls[k] := by
    rw [List.find?_eq_some_iff_getElem]
    refine ⟨by simpa using he, ls.length - 1 - k, by simp; omega, ?_, fun j hj => ?_⟩
    · rw [List.getElem_reverse]; congr 1; omega
    · rw [List.getElem_reverse]
      simpa using hn (ls.length - 1 - j) (by omega) (by omega)
  rw [this]; rfl
theorem find_none (ls : List (Nat × List Nat)) (i : Int) (hn : ∀ j (h : j < ls.length), (ls[j].1 : Int) ≠ i) : find ls i = none := by
  unfold find
  have : ls.reverse.find? (fun w => decide ((w.1 : Int) = i)) = none := by
    rw [List.find?_eq_none]
    intro w hw
    obtain ⟨j, hj, rfl⟩ := List.getElem_of_mem (List.mem_reverse.1 hw)
    simpa using hn j hj
  rw [this]; rfl
/-- What stands at a place: 71, if there is no such. -/
def getC (es : List (List Nat)) (ls : List (Nat × List Nat)) (i : Int) : List Nat := if inR i es.length then (find ls i).getD (es.getD i.toNat zero64) else zero64
theorem get20 (hG20 : G 20 = some (.code v20)) (hG54 : G 54 = some (.iter (backwardI true 65)))
    (h45 : ∀ i es fz ls off left (m : Nat), 1 ≤ m → call G m 45 [p0, .int .i64 i] [plateO es fz ls off left] = some (.bool (inR i es.length), [plateO es fz ls off left]))
    (h47 : ∀ (es : List V) (m : Nat), 1 ≤ m → call G m 47 [.isl 0 65 es] [] = some (.func 54 [.iptr [.isl 0 65 es]], []))
    (i : Int) (es fz ls off left) (he : ∀ c ∈ es, c.length = 64) (hw : ∀ w ∈ ls, w.2.length = 64) (hb : ls.length < 2 ^ 40) (n : Nat) (hn : 2 ≤ n) :
    call G n 20 [p0, .int .i64 i] [plateO es fz ls off left] = some (.tup [cellV (getC es ls i), .int .i64 (if inR i es.length then 0 else 71)], [plateO es (if inR i es.length then true else fz) ls off left]) := by
  have hz : zero64.length = 64 := rfl
  cases fz <;> cases hx : inR i es.length
  all_goals simp only [getC, hx, Bool.false_eq_true, if_true, if_false]
  all_goals
    (refine Vq.call_Wx (fn := v20) (body := b20) hG20 (by omega) ⟨rfl, by decide⟩ rfl (by (try simp only [Vq.start, List.length_cons, List.length_nil, List.map_cons, List.map_nil, List.cons_append, List.nil_append, List.replicate_succ, List.replicate_zero, Nat.reduceAdd, Nat.reduceSub, v20]); exact rfl) (by (try simp only [List.length_cons, List.length_nil, Nat.reduceAdd, Nat.zero_add]); exact rfl) (fun m hm => ?_); unfold b20; (repeat' (first | ((with_reducible apply Vq.gPR); (first | ((with_reducible first | apply Vq.PR_opdT | apply Vq.PR_intT); (· exact rfl); (try dsimp only)) | (with_reducible first | apply Vq.PR_putO | exact Vq.PR_ret | apply Vq.PR_optV) | ((first | (with_reducible apply Vq.PO_n) | ((with_reducible apply Vq.PO_t); (· exact rfl)) | ((with_reducible apply Vq.PO_f); (· exact rfl); (· exact rfl)) | ((with_reducible apply Vq.PO_u); (· exact rfl))); dsimp only [Vq.opProg, Vq.skipP, Vq.gOptInt, Vq.gThere]) | ((with_reducible first | apply Vq.PR_opdV | apply Vq.PR_intV | apply Vq.PR_boolV | apply Vq.PR_putN | apply Vq.PR_drainV | apply Vq.PR_build | apply Vq.PR_build0 | apply Vq.PR_buildS | apply Vq.PR_buildS0); (try dsimp only)) | ((with_reducible first | apply Vq.PR_gMoveP | apply Vq.PR_gKeepP | apply Vq.PR_gImmP); (· exact rfl); (· exact rfl); (try dsimp only)) | ((with_reducible first | apply Vq.PR_gMove | apply Vq.PR_gKeep | apply Vq.PR_gImm); (· exact rfl); (· exact rfl); (try dsimp only)) | ((with_reducible first | apply Vq.PR_gMoveV | apply Vq.PR_gKeepV | apply Vq.PR_gImmV); (try dsimp only); rotate_left; (· exact rfl)) | ((with_reducible apply Vq.PR_drain1); (· exact rfl); (· exact rfl)) | ((with_reducible apply Vq.PR_settleR); (try dsimp only)) | (with_reducible first | apply Vq.PR_drain0 | apply Vq.PR_settle | apply Vq.PR_keeps | apply Vq.PR_cellsO | apply Vq.PR_scellsO | apply Vq.PR_shomeO | apply Vq.PR_shomeS | apply Vq.PR_setS | apply Vq.PR_setO) | ((with_reducible first | apply Vq.PR_boolT | apply Vq.PR_getS | apply Vq.PR_getO); (· exact rfl); (try dsimp only)) | ((with_reducible first | apply Vq.PR_elemsO | apply Vq.PR_elemsS); (· exact rfl); (· exact rfl); (· exact rfl); (try dsimp only)) | ((with_reducible first | apply Vq.PR_cellsE | apply Vq.PR_scellsE | apply Vq.PR_viewR); (· first | (apply Vq.PR_aelO; (· exact rfl); (· exact rfl); (· exact rfl)) | (apply Vq.PR_aelS; (· exact rfl); (· exact rfl); (· exact rfl)))) | ((with_reducible apply Vq.PR_viewA); (· exact rfl)) | ((with_reducible first | apply Vq.PR_view | apply Vq.PR_len); (· exact rfl); (try dsimp only)) | ((with_reducible first | apply Vq.PR_call | apply Vq.PR_lendN | apply Vq.PR_reachN | apply Vq.PR_getObN | apply Vq.PR_setObN | apply Vq.PR_newObN | apply Vq.PR_theres) <;> (try simp only [Vq.idsIn_by, Vq.idsIn_c, Vq.idsIn_n, Vq.ids_agg, Vq.ids_ptr, Vq.ids_int, Vq.ids_bool, Vq.ids_str, Vq.ids_isl, Vq.ids_xsl, Vq.ids_fsl, Vq.ids_nilS, List.nil_append, List.cons_append, List.append_nil])) | ((with_reducible apply Vq.PR_lendT); (· exact rfl); (· intro _ e; cases e); (try simp only [Vq.V.leaves, Vq.borrows_by, Vq.borrows, Vq.borrow1, Vq.V.withLeaves, List.headD_cons, List.map_cons, List.map_nil])) | ((with_reducible apply Vq.PR_lendV); (· intro _ e; cases e); (try dsimp only)) | ((with_reducible apply Vq.PR_reachC); (· decide); (· exact rfl); (try simp only [Vq.idsIn_by, Vq.idsIn_c, Vq.idsIn_n, Vq.ids_agg, Vq.ids_ptr, Vq.ids_int, Vq.ids_bool, Vq.ids_str, Vq.ids_isl, Vq.ids_xsl, Vq.ids_fsl, Vq.ids_nilS, List.nil_append, List.cons_append, List.append_nil])) | ((with_reducible apply Vq.PR_reachS); (· decide)) | ((with_reducible first | apply Vq.PR_getObC | apply Vq.PR_newObC); (· exact rfl)) | (with_reducible apply Vq.PR_callA) | ((with_reducible apply Vq.gReach); simp only [Vq.idsIn_by, Vq.idsIn_c, Vq.idsIn_n, Vq.ids_agg, Vq.ids_ptr, Vq.ids_int, Vq.ids_bool, Vq.ids_str, Vq.ids_isl, Vq.ids_xsl, Vq.ids_fsl, Vq.ids_nilS, List.nil_append, List.cons_append, List.append_nil, List.headD_cons, List.map_cons, List.map_nil, Vq.freeze1]) | ((with_reducible apply Vq.PR_callK); (· decide)) | ((with_reducible apply Vq.PR_setObC); (· exact rfl)) | ((with_reducible apply Vq.PR_resRef); (· intro _ _ _ _ _ e; cases e); (try dsimp only)) | ((with_reducible apply Vq.PR_set1X); (· first | (apply Vq.PR_ahO; (· exact rfl); (· exact rfl)) | (apply Vq.PR_ahS; (· exact rfl); (· exact rfl)))) | ((with_reducible apply Vq.PR_set1F); (· first | (apply Vq.PR_ahO; (· exact rfl); (· exact rfl)) | (apply Vq.PR_ahS; (· exact rfl); (· exact rfl)))) | ((with_reducible apply Vq.PR_set2I); (· first | (apply Vq.PR_ahO; (· exact rfl); (· exact rfl)) | (apply Vq.PR_ahS; (· exact rfl); (· exact rfl)))) | ((with_reducible apply Vq.PR_set2X); (· first | (apply Vq.PR_ahO; (· exact rfl); (· exact rfl)) | (apply Vq.PR_ahS; (· exact rfl); (· exact rfl))); (· decide)) | ((with_reducible apply Vq.PR_set2F); (· first | (apply Vq.PR_ahO; (· exact rfl); (· exact rfl)) | (apply Vq.PR_ahS; (· exact rfl); (· exact rfl))); (· decide)) | ((with_reducible apply Vq.PR_ifN); (· exact rfl)) | (apply Vq.PR_ifT; (· exact rfl)) | (apply Vq.PR_ifF; (· exact rfl)) | (apply Vq.PR_if) | (simp only [z1, z2, z3, z4, z5, z6, z7, z8, z9, z10, z11, z12, z13, z14, z15, z16, z17, z18, List.length_map, V.withLeaves, V.borrow, zero1, freeze1, borrows, borrow1, V.leaves, V.nextg, Nat.reduceAdd, Nat.reduceSub, layTup, obj1, splice, Bool.false_eq_true, if_true, if_false, Bool.not_true, Bool.not_false, Vq.take_mapl, Int.toNat_natCast, Int.toNat_zero, Nat.add_zero, Nat.sub_zero, Nat.zero_add, Int.reduceToNat, Vq.binV_shr, Vq.binV_shl, Int.natCast_nonneg, Vq.flat_by, Vq.byN_take, Vq.byN_len, Vq.here_by, Vq.here_int, Vq.here_bool, Vq.here_str, Vq.here_isl, Vq.here_xsl, Vq.here_nil, Vq.obj1_by, Vq.freeze1_by, Vq.inObj_by, Vq.inElem_by, Vq.plain_by, Vq.V.cells, Vq.here_intL, Vq.here_boolL, Vq.here_strL, Vq.here_islL, Vq.here_xslL, Vq.here_fslL, Vq.here_ptrL, Vq.here_nilP, Vq.V.inElem, Vq.V.inObj, List.length_append, List.length_replicate, List.length_set, List.drop_replicate, List.replicate_zero, List.append_nil, List.take_length, Nat.reduceSub, List.map_cons, List.map_nil, List.all_cons, List.all_nil, Vq.freeze1, Vq.obj1, Bool.and_true, Bool.true_and, List.flatMap_cons, List.flatMap_nil, List.append_nil, Vq.regens_by0, Vq.regens_bb, Vq.regens_zb, List.take_replicate, Nat.min_self, Nat.zero_min, List.nil_append, Vq.ofCells, Bool.false_eq_true, if_false, Vq.regens_nn, Vq.regens_g0, Vq.regens_0c, Vq.regens_c, Vq.regen1, Vq.V.nextg, Option.bind_some, Option.map_some, if_true, Vq.borrows_by, Vq.byN_app, Vq.V.sz?, Vq.lenOf, Vq.TK.fits, Vq.gThere, Vq.subV, List.map_cons, List.map_nil, List.flatMap_cons, List.flatMap_nil, hx]))) | ((with_reducible apply Vq.gWO); (first | (with_reducible apply Vq.WO_nil) | ((with_reducible first | apply Vq.gWOs | apply Vq.gWOo); simp only [z1, z2, z3, z4, z5, z6, z7, z8, z9, z10, z11, z12, z13, z14, z15, z16, z17, z18, List.length_map, V.withLeaves, V.borrow, zero1, freeze1, borrows, borrow1, V.leaves, V.nextg, Nat.reduceAdd, Nat.reduceSub, layTup, obj1, splice, Bool.false_eq_true, if_true, if_false, Bool.not_true, Bool.not_false, Vq.take_mapl, Int.toNat_natCast, Int.toNat_zero, Nat.add_zero, Nat.sub_zero, Nat.zero_add, Int.reduceToNat, hx]) | ((with_reducible apply Vq.WO_cons); (· first | exact rfl | (apply Vq.vcallA; exact rfl; exact fun _ => rfl; exact rfl; (first | first | exact h45 _ es false ls off left _ (by omega) | exact h45 _ es true ls off left _ (by omega) | exact h47 _ _ (by omega)); (first | exact rfl | (simp [Vq.V.apart, Vq.V.leaves, Vq.V.noslice]; done) | (simp [Vq.V.apart, Vq.V.leaves, Vq.V.noslice]; assumption)); exact rfl) | (apply Vq.vcallL; exact rfl; exact fun _ => rfl; exact fun _ => rfl; exact fun _ => rfl; exact fun _ => rfl; decide; exact rfl; exact rfl; (first | first | exact h45 _ es false ls off left _ (by omega) | exact h45 _ es true ls off left _ (by omega) | exact h47 _ _ (by omega)); exact rfl)); (try simp only [z1, z2, z3, z4, z5, z6, z7, z8, z9, z10, z11, z12, z13, z14, z15, z16, z17, z18, List.length_map, V.withLeaves, V.borrow, zero1, freeze1, borrows, borrow1, V.leaves, V.nextg, Nat.reduceAdd, Nat.reduceSub, layTup, obj1, splice, Bool.false_eq_true, if_true, if_false, Bool.not_true, Bool.not_false, Vq.take_mapl, Int.toNat_natCast, Int.toNat_zero, Nat.add_zero, Nat.sub_zero, Nat.zero_add, Int.reduceToNat, hx])) | (with_reducible apply Vq.PO_cons))) | ((with_reducible apply Vq.gWD); (first | ((with_reducible first | apply Vq.gWDs | apply Vq.gWDo); simp only [z1, z2, z3, z4, z5, z6, z7, z8, z9, z10, z11, z12, z13, z14, z15, z16, z17, z18, List.length_map, V.withLeaves, V.borrow, zero1, freeze1, borrows, borrow1, V.leaves, V.nextg, Nat.reduceAdd, Nat.reduceSub, layTup, obj1, splice, Bool.false_eq_true, if_true, if_false, Bool.not_true, Bool.not_false, Vq.take_mapl, Int.toNat_natCast, Int.toNat_zero, Nat.add_zero, Nat.sub_zero, Nat.zero_add, Int.reduceToNat, hx]) | (with_reducible first | apply Vq.PD_cons | apply Vq.WD_nil))) | ((with_reducible first | apply Vq.gQs | apply Vq.gQb); (first | (with_reducible first | apply Vq.Qs_n | apply Vq.Qs_r | apply Vq.Qs_e | apply Vq.Qb_n0 | apply Vq.Qb_x0 | apply Vq.Qb_r) | ((with_reducible apply Vq.Qb_ne); (· decide)))) | ((with_reducible apply Vq.gW); (first | (with_reducible first | apply Vq.W_seq | apply Vq.W_region | apply Vq.W_skip | apply Vq.W_ret | apply Vq.W_exit | apply Vq.W_block | apply Vq.W_draw) | ((with_reducible apply Vq.W_condT); (· exact rfl)) | ((with_reducible apply Vq.W_condF); (· exact rfl)) | ((first | ((with_reducible apply Vq.W_condD); (· exact rfl)) | ((with_reducible apply Vq.W_cond); (· exact rfl))); all_goals (intro hq; (try simp only [hq]))))) | ((with_reducible apply Vq.gCall); (first | (first | exact h45 _ es false ls off left _ (by omega) | exact h45 _ es true ls off left _ (by omega) | exact h47 _ _ (by omega)))) | ((with_reducible apply Vq.gThG); simp only [List.flatMap_cons, List.flatMap_nil, Vq.gTheres_app, Vq.V.leaves, Vq.gTheres, Vq.gThere1, Vq.gThere, Vq.gTheres_by]; done) | (exact fun _ => rfl) | (apply Vq.PA_nil) | ((with_reducible apply Vq.PA_T); (· exact rfl); (· intro _ e; cases e)) | ((with_reducible apply Vq.PA_V); (· intro _ e; cases e)) | exact Vq.press_by _ | (with_reducible first | exact Vq.settle_by _ _ _ | exact Vq.keeps_by _ _ _ | exact fun _ => rfl) | (intro k; simp only [Vq.settle, Vq.settle1, Vq.settle_by, Vq.keeps, Vq.keep1, Vq.keeps_by]; first | done | exact rfl) | ((with_reducible first | apply Vq.gRens | apply Vq.gRen | apply Vq.gMapM); (first | (simp only [Vq.rens_by, Vq.rens_c, Vq.rens_n, Vq.ren_int, Vq.ren_bool, Vq.ren_str, Vq.ren_isl, Vq.ren_xsl, Vq.ren_fsl, Vq.ren_nilS, Vq.ren_nil, Vq.ren_iptr, Vq.ren_agg, Vq.ren_tup, Vq.ren_func, Vq.zero1_by, Vq.objRen_e, Vq.mapM_c, Vq.mapM_n, Vq.ren_ptr, Vq.gTheres_by, Vq.gTh_agg, Vq.flatMap_nil', z1, z2, z3, z4, z5, z6, z7, z8, z9, z10, z11, z12, z13, z14, z15, z16, z17, z18, List.length_map, V.withLeaves, V.borrow, zero1, freeze1, borrows, borrow1, V.leaves, V.nextg, Nat.reduceAdd, Nat.reduceSub, layTup, obj1, splice, Bool.false_eq_true, if_true, if_false, Bool.not_true, Bool.not_false, Vq.take_mapl, Int.toNat_natCast, Int.toNat_zero, Nat.add_zero, Nat.sub_zero, Nat.zero_add, Int.reduceToNat, Option.bind_some, Option.map_some, List.map_cons, List.map_nil, hx]; first | done | exact rfl) | exact rfl)) | ((with_reducible first | apply Vq.gSome | apply Vq.gTrue | apply Vq.gFalse); (first | exact regens_g0 _ | exact rfl | assumption | (simp only [List.flatMap_cons, List.flatMap_nil, List.append_nil, Vq.regens_by0, Vq.regens_bb, Vq.regens_zb, List.take_replicate, Nat.min_self, Nat.zero_min, List.nil_append, Vq.ofCells, Bool.false_eq_true, if_false, Vq.regens_nn, Vq.regens_g0, Vq.regens_0c, Vq.regens_c, Vq.regen1, Vq.V.nextg, Option.bind_some, Option.map_some, if_true, Vq.binV_shr, Vq.binV_shl, Int.natCast_nonneg, Vq.flat_by, Vq.byN_take, Vq.byN_len, Vq.here_by, Vq.here_int, Vq.here_bool, Vq.here_str, Vq.here_isl, Vq.here_xsl, Vq.here_nil, Vq.obj1_by, Vq.freeze1_by, Vq.inObj_by, Vq.inElem_by, Vq.plain_by, Vq.V.cells, Vq.here_intL, Vq.here_boolL, Vq.here_strL, Vq.here_islL, Vq.here_xslL, Vq.here_fslL, Vq.here_ptrL, Vq.here_nilP, Vq.V.inElem, Vq.V.inObj, List.length_append, List.length_replicate, List.length_set, List.drop_replicate, List.replicate_zero, List.append_nil, List.take_length, Nat.reduceSub, List.map_cons, List.map_nil, List.all_cons, List.all_nil, Vq.freeze1, Vq.obj1, Bool.and_true, Bool.true_and, Vq.hasX_by, Vq.hasX_int, Vq.hasX_bool, Vq.hasX_str, Vq.hasX_isl, Vq.hasX_nil, hx]; (first | done | exact rfl)))) | (first | (simp only [z1, z2, z3, z4, z5, z6, z7, z8, z9, z10, z11, z12, z13, z14, z15, z16, z17, z18, List.length_map, V.withLeaves, V.borrow, zero1, freeze1, borrows, borrow1, V.leaves, V.nextg, Nat.reduceAdd, Nat.reduceSub, layTup, obj1, splice, Bool.false_eq_true, if_true, if_false, Bool.not_true, Bool.not_false, Vq.take_mapl, Int.toNat_natCast, Int.toNat_zero, Nat.add_zero, Nat.sub_zero, Nat.zero_add, Int.reduceToNat, Vq.binV_shr, Vq.binV_shl, Int.natCast_nonneg, Vq.flat_by, Vq.byN_take, Vq.byN_len, Vq.here_by, Vq.here_int, Vq.here_bool, Vq.here_str, Vq.here_isl, Vq.here_xsl, Vq.here_nil, Vq.obj1_by, Vq.freeze1_by, Vq.inObj_by, Vq.inElem_by, Vq.plain_by, Vq.V.cells, Vq.here_intL, Vq.here_boolL, Vq.here_strL, Vq.here_islL, Vq.here_xslL, Vq.here_fslL, Vq.here_ptrL, Vq.here_nilP, Vq.V.inElem, Vq.V.inObj, List.length_append, List.length_replicate, List.length_set, List.drop_replicate, List.replicate_zero, List.append_nil, List.take_length, Nat.reduceSub, List.map_cons, List.map_nil, List.all_cons, List.all_nil, Vq.freeze1, Vq.obj1, Bool.and_true, Bool.true_and, List.flatMap_cons, List.flatMap_nil, List.append_nil, Vq.regens_by0, Vq.regens_bb, Vq.regens_zb, List.take_replicate, Nat.min_self, Nat.zero_min, List.nil_append, Vq.ofCells, Bool.false_eq_true, if_false, Vq.regens_nn, Vq.regens_g0, Vq.regens_0c, Vq.regens_c, Vq.regen1, Vq.V.nextg, Option.bind_some, Option.map_some, if_true, Vq.borrows_by, Vq.byN_app, Vq.V.sz?, Vq.lenOf, Vq.TK.fits, Vq.gThere, Vq.subV, List.map_cons, List.map_nil, List.flatMap_cons, List.flatMap_nil, hx]; (try (first | done | exact rfl))) | exact rfl | (simp only [Vq.rens_by, Vq.rens_c, Vq.rens_n, Vq.ren_int, Vq.ren_bool, Vq.ren_str, Vq.ren_isl, Vq.ren_xsl, Vq.ren_fsl, Vq.ren_nilS, Vq.ren_nil, Vq.ren_iptr, Vq.ren_agg, Vq.ren_tup, Vq.ren_func, Vq.zero1_by, Vq.objRen_e, Vq.mapM_c, Vq.mapM_n, Vq.ren_ptr, Vq.gTheres_by, Vq.gTh_agg, Vq.flatMap_nil', Vq.idsIn_by, Vq.idsIn_c, Vq.idsIn_n, Vq.ids_agg, Vq.ids_ptr, Vq.ids_int, Vq.ids_bool, Vq.ids_str, Vq.ids_isl, Vq.ids_xsl, Vq.ids_fsl, Vq.ids_nilS, List.nil_append, List.cons_append, List.append_nil]; done) | omega | decide | (simp [Vq.binV_shr, Vq.binV_shl, Int.natCast_nonneg, Vq.flat_by, Vq.byN_take, Vq.byN_len, Vq.here_by, Vq.here_int, Vq.here_bool, Vq.here_str, Vq.here_isl, Vq.here_xsl, Vq.here_nil, Vq.obj1_by, Vq.freeze1_by, Vq.inObj_by, Vq.inElem_by, Vq.plain_by, Vq.V.cells, Vq.here_intL, Vq.here_boolL, Vq.here_strL, Vq.here_islL, Vq.here_xslL, Vq.here_fslL, Vq.here_ptrL, Vq.here_nilP, Vq.V.inElem, Vq.V.inObj, List.length_append, List.length_replicate, List.length_set, List.drop_replicate, List.replicate_zero, List.append_nil, List.take_length, Nat.reduceSub, List.map_cons, List.map_nil, List.all_cons, List.all_nil, Vq.freeze1, Vq.obj1, Bool.and_true, Bool.true_and, hx]; (first | done | omega))))))
  · first | (refine Vq.Qe_r ?_; first | kernel_rfl | exact rfl) | (refine Vq.Qe_n ?_; first | kernel_rfl | exact rfl)
  · refine Vq.W_range (g := 54) (caps := [.iptr [.isl 0 65 (ls.map writeV)]]) (bs := [[.isl 0 65 (ls.map writeV)]]) (base := 1) (site := 7) rfl rfl (xs := (idxV ((ls.map writeV).map (fixE true))).reverse) ?_ (fun _ => S20 i es ls off left) (fun k => ∀ j, (h : j < ls.length) → ls.length - k ≤ j → ((ls[j]'h).1 : Int) ≠ i) (fun j h h2 => by omega) (by kernel_rfl) (fun k hk hI => ?_) (fun hI => ?_)
    · simp only [itersOf, hG54, backwardI]
      rw [if_pos (by simp; omega)]
      rfl
    · have hk' : k < ls.length := by simpa [idxV] using hk
      refine round20 G i es ls off left hw k m _ ls[ls.length - 1 - k] (hw _ (List.getElem_mem _)) (xs20 ls k hk' hk) _ _ (fun hne j hj hjk => ?_) (fun he => ?_)
      · by_cases hjj : j = ls.length - 1 - k
        · subst hjj; exact hne
        · exact hI j hj (by omega)
      · refine Qb_r ?_
        refine Qs_r ?_
        refine Qe_r ?_
        have hf : find ls i = some ls[ls.length - 1 - k].2 := find_at ls i _ (by omega) he (fun j hj hlt => hI j hj (by omega))
        simp only [hf, Option.getD_some]
        have h64 := hw _ (List.getElem_mem (show ls.length - 1 - k < ls.length by omega))
        obtain ⟨g, hg⟩ := exN h64
        rw [hg]
        show _ = _
        kernel_rfl
    · refine Qb_n (σ1 := S20 i es ls off left) (by kernel_rfl) ?_
      have hf : find ls i = none := find_none ls i fun j hj => hI j hj (by simp [idxV])
      simp only [hf, Option.getD_none]
      have hin : i.toNat < es.length := by simp [inR] at hx; omega
      have h64 := he _ (List.getElem_mem hin)
      have e1 : es.getD i.toNat zero64 = es[i.toNat] := by simp [List.getD_eq_getElem?_getD, hin]
      have h1 : (es.map cellV)[i.toNat]? = some (cellV es[i.toNat]) := by simp [hin]
      have hi0 : 0 ≤ i := by simp [inR] at hx; omega
      have hi1 : i < (es.length : Int) := by simp [inR] at hx; omega
      rw [e1]
      unfold S20
      (refine Vq.runO (And.intro h64 (And.intro (take_by h64) (And.intro (drop_by h64) (And.intro h1 (And.intro hi0 (And.intro hi1 trivial)))))) trivial ?_)
      refine Qe_r ?_
      obtain ⟨g, hg⟩ := exN h64
      rw [hg]
      show _ = _
      kernel_rfl
  · first | (refine Vq.Qe_r ?_; first | kernel_rfl | exact rfl) | (refine Vq.Qe_n ?_; first | kernel_rfl | exact rfl)
  · refine Vq.W_range (g := 54) (caps := [.iptr [.isl 0 65 (ls.map writeV)]]) (bs := [[.isl 0 65 (ls.map writeV)]]) (base := 1) (site := 7) rfl rfl (xs := (idxV ((ls.map writeV).map (fixE true))).reverse) ?_ (fun _ => S20 i es ls off left) (fun k => ∀ j, (h : j < ls.length) → ls.length - k ≤ j → ((ls[j]'h).1 : Int) ≠ i) (fun j h h2 => by omega) (by kernel_rfl) (fun k hk hI => ?_) (fun hI => ?_)
    · simp only [itersOf, hG54, backwardI]
      rw [if_pos (by simp; omega)]
      rfl
    · have hk' : k < ls.length := by simpa [idxV] using hk
      refine round20 G i es ls off left hw k m _ ls[ls.length - 1 - k] (hw _ (List.getElem_mem _)) (xs20 ls k hk' hk) _ _ (fun hne j hj hjk => ?_) (fun he => ?_)
      · by_cases hjj : j = ls.length - 1 - k
        · subst hjj; exact hne
        · exact hI j hj (by omega)
      · refine Qb_r ?_
        refine Qs_r ?_
        refine Qe_r ?_
        have hf : find ls i = some ls[ls.length - 1 - k].2 := find_at ls i _ (by omega) he (fun j hj hlt => hI j hj (by omega))
        simp only [hf, Option.getD_some]
        have h64 := hw _ (List.getElem_mem (show ls.length - 1 - k < ls.length by omega))
        obtain ⟨g, hg⟩ := exN h64
        rw [hg]
        show _ = _
        kernel_rfl
    · refine Qb_n (σ1 := S20 i es ls off left) (by kernel_rfl) ?_
      have hf : find ls i = none := find_none ls i fun j hj => hI j hj (by simp [idxV])
      simp only [hf, Option.getD_none]
      have hin : i.toNat < es.length := by simp [inR] at hx; omega
      have h64 := he _ (List.getElem_mem hin)
      have e1 : es.getD i.toNat zero64 = es[i.toNat] := by simp [List.getD_eq_getElem?_getD, hin]
      have h1 : (es.map cellV)[i.toNat]? = some (cellV es[i.toNat]) := by simp [hin]
      have hi0 : 0 ≤ i := by simp [inR] at hx; omega
      have hi1 : i < (es.length : Int) := by simp [inR] at hx; omega
      rw [e1]
      unfold S20
      (refine Vq.runO (And.intro h64 (And.intro (take_by h64) (And.intro (drop_by h64) (And.intro h1 (And.intro hi0 (And.intro hi1 trivial)))))) trivial ?_)
      refine Qe_r ?_
      obtain ⟨g, hg⟩ := exN h64
      rw [hg]
      show _ = _
      kernel_rfl
end
end L1
end Go.Vq

namespace Go.Vq
namespace L1
open Go
set_option maxRecDepth 1000000
set_option maxHeartbeats 4000000
def body21 : VCode := (.seq (.region [⟨some 17, .bin (.lss) (.tmp 16) (.tmp 15), none, 0⟩] false) (.seq (.cond (.tmp 17) (.skip) (.exit 0)) (.seq (.block 1 none (.seq (.region [⟨some 18, .move (.tmp 16), none, 0⟩, ⟨some 19, .indexAddr none 65 (.tmp 14) (.tmp 16), none, 0⟩, ⟨some 20, .load true 65 (.tmp 19), none, 2⟩, ⟨some 9, .alloc 0 ([(.int .i64 0)] ++ Z8 64), none, 0⟩, ⟨some 8, .assign (.tmp 18), none, 15⟩, ⟨none, .store 65 (.tmp 9) (.tmp 20), none, 31⟩] false) (.seq (.region [⟨some 10, .assign (.val (.int .i64 0)), none, 0⟩] false) (.seq (.seq (.region [⟨some 21, .move (.tmp 8), none, 0⟩, ⟨some 22, .bin (.quo) (.tmp 21) (.val (.int .i64 8)), none, 1⟩, ⟨some 23, .move (.tmp 1), none, 0⟩, ⟨some 24, .len (.slc 1) (.tmp 23), none, 4⟩, ⟨some 25, .bin (.lss) (.tmp 22) (.tmp 24), none, 15⟩, ⟨some 26, .move (.tmp 25), none, 31⟩, ⟨some 27, .move (.tmp 1), some (26, true), 63⟩, ⟨some 28, .move (.tmp 8), some (26, true), 63⟩, ⟨some 29, .bin (.quo) (.tmp 28) (.val (.int .i64 8)), some (26, true), 191⟩, ⟨some 30, .indexAddr none 1 (.tmp 27) (.tmp 29), some (26, true), 511⟩, ⟨some 31, .load false 1 (.tmp 30), some (26, true), 1023⟩, ⟨some 32, .move (.tmp 8), some (26, true), 63⟩, ⟨some 33, .bin (.rem) (.tmp 32) (.val (.int .i64 8)), some (26, true), 2111⟩, ⟨some 34, .bin (.shr) (.tmp 31) (.tmp 33), some (26, true), 8191⟩, ⟨some 35, .bin (.and) (.tmp 34) (.val (.int .u8 1)), some (26, true), 16383⟩, ⟨some 36, .eq false (.num) (.tmp 35) (.val (.int .u8 1)), some (26, true), 32767⟩, ⟨some 37, .pick (.tmp 26) (.tmp 36) (.val (.bool false)), none, 65535⟩] false) (.cond (.tmp 37) (.region [⟨some 10, .assign (.val (.int .i64 64)), none, 0⟩] false) (.skip))) (.seq (.seq (.region [⟨some 38, .move (.tmp 8), none, 0⟩, ⟨some 39, .move (.tmp 2), none, 0⟩, ⟨some 40, .eq false (.num) (.tmp 38) (.tmp 39), none, 3⟩] false) (.cond (.tmp 40) (.region [⟨some 41, .move (.tmp 3), none, 0⟩, ⟨some 42, .min [(.tmp 41), (.val (.int .i64 64))], none, 1⟩, ⟨some 43, .max [(.val (.int .i64 0)), (.tmp 42)], none, 3⟩, ⟨some 10, .assign (.tmp 43), none, 7⟩] false) (.skip))) (.region [⟨some 44, .move (.tmp 0), none, 0⟩, ⟨some 45, .nilCheck (.tmp 44), none, 1⟩, ⟨some 46, .fieldAddr 0 (.tmp 45), none, 3⟩, ⟨some 47, .load false 1 (.tmp 46), none, 7⟩, ⟨some 48, .fieldAddr 0 (.tmp 9), none, 0⟩, ⟨some 49, .load false 1 (.tmp 48), none, 16⟩, ⟨some 50, .indexAddr none 64 (.tmp 47) (.tmp 49), none, 63⟩, ⟨some 51, .move (.tmp 10), none, 0⟩, ⟨some 52, .slice (.arr 64) (.tmp 50) none (some (.tmp 51)) none, none, 255⟩, ⟨some 53, .fieldAddr 1 (.tmp 9), none, 0⟩, ⟨some 54, .slice (.arr 64) (.tmp 53) none none none, none, 512⟩, ⟨some 55, .copy 1 (.tmp 52) (.tmp 54), none, 2047⟩] true)))))) (.region [⟨some 56, .bin (.add) (.tmp 16) (.val (.int .i64 1)), none, 0⟩, ⟨some 16, .move (.tmp 56), none, 1⟩] false))))
/-- A bit of a byte, as the program asks for it. -/
def bitP (x j : Nat) : Bool := (IntKind.u8.wrap (BitVec.ofInt IntKind.u8.bits ((x : Int).fdiv (2 ^ min j IntKind.u8.bits)) &&& BitVec.ofInt IntKind.u8.bits 1).toNat) == 1
def cut (a : Int) : Nat := (max 0 (min a 64)).toNat
/-- What is left of a cell. -/
def tear (n : Nat) (old new : List Nat) : List Nat := new.take n ++ old.drop n
def S21 (kp : List Nat) (torn at' : Int) (es : List (List Nat)) (fz : Bool) (ls : List (Nat × List Nat)) (off : Bool) (left : Int) (i : Nat) : St :=
  ⟨(p0 :: .isl 0 1 (byN kp) :: .int .i64 torn :: .int .i64 at' :: .gone 0 :: .gone 0 :: .gone 0 :: .gone 0 :: .gone 0 :: .gone 0 :: .gone 0 :: p0 :: p0 :: .ptr (.obj 0 1) :: .srf (.obj 0 1) 0 65 0 ls.length :: .int .i64 ls.length :: .int .i64 i :: .gone 0 :: .gone 0 :: .gone 0 :: .gone 0 :: .gone 0 :: .gone 0 :: .gone 0 :: .gone 0 :: .gone 0 :: .gone 0 :: .gone 0 :: .gone 0 :: .gone 0 :: .gone 0 :: .gone 0 :: .gone 0 :: .gone 0 :: .gone 0 :: .gone 0 :: .gone 0 :: .gone 0 :: .gone 0 :: .gone 0 :: .gone 0 :: .gone 0 :: .gone 0 :: .gone 0 :: .gone 0 :: .gone 0 :: .gone 0 :: .gone 0 :: .gone 0 :: .gone 0 :: .gone 0 :: .gone 0 :: .gone 0 :: .gone 0 :: .gone 0 :: .gone 0 :: .gone 0 :: .gone 0 :: .gone 0 :: .gone 0 :: .gone 0 :: .gone 0 :: .gone 0 :: .gone 0 :: .gone 0 :: .gone 0 :: []), [some (plateO es fz ls off left), none]⟩
section
variable (G : VProg)
theorem setCells_tear {old new : List Nat} {n : Nat} (h : n ≤ new.length) : V.setCells (cellV old) 0 (byN (new.take n)) = cellV (tear n old new) := by
  show V.agg (splice (byN old) 0 (byN (new.take n))) = _
  simp only [splice, List.take_zero, List.nil_append, Nat.zero_add, byN_len, List.length_take, Nat.min_eq_left h, byN_drop, tear, cellV, byN_app]
theorem round21 (kp : List Nat) (torn at' : Int) (es fz ls off left) (he : ∀ c ∈ es, c.length = 64) (hl : ∀ w ∈ ls, w.1 < es.length ∧ w.2.length = 64) (hn : ls.length < 2 ^ 40) (i m : Nat) (hi : i < ls.length) (b1 b2 b3 : Bool)
    (hb1 : decide ((((i / 8 : Nat) : Int)) < ((byN kp).length : Int)) = b1) (hb2 : b1 = true → bitP (kp.getD (i / 8) 0) (i % 8) = b2) (hb3 : ((i : Int) == torn) = b3) (mt : Nat) (hmt : cut at' = mt)
    (Q : Out → St → Prop) (J : Nat → Prop) (hj : J (i + 1)) (S : Nat → St) (hS : S (i + 1) = S21 kp torn at' (es.set ls[i].1 (tear (if b3 then mt else if b1 && b2 then 64 else 0) es[ls[i].1]! ls[i].2)) fz ls off left (i + 1)) :
    W (call G m) (itersOf G) (exec G m) 1 body21 (S21 kp torn at' es fz ls off left i) (Qrnd (some [0, 1, 2, 3, 11, 12, 13, 14, 15, 16]) 1 S J Q) := by
  have hlt : decide ((i : Int) < ls.length) = true := by simp; omega
  have hw0 := hl ls[i] (List.getElem_mem _)
  have hw := hw0
  have hw2 := hw0.2
  have h1 : (ls.map writeV)[i]? = some (writeV ls[i]) := by simp [hi]
  have eb : es[ls[i].1]! = es[ls[i].1] := by simp [hw.1]
  have h2 : (es.map cellV)[ls[i].1]? = some (cellV es[ls[i].1]) := by simp [hw.1]
  have hinc := inc64 i (by omega)
  have h64 : es[ls[i].1].length = 64 := he _ (List.getElem_mem _)
  have hq : IntKind.i64.wrap ((i : Int).tdiv 8) = ((i / 8 : Nat) : Int) := by
    rw [Int.tdiv_eq_ediv_of_nonneg (by omega), wrapi64 _ (by omega) (by omega)]; rfl
  have hr : (i : Int).tmod 8 = ((i % 8 : Nat) : Int) := by rw [Int.tmod_eq_emod_of_nonneg (by omega)]; rfl
  have hx : (if (if (64 : Int) < at' then (64 : Int) else at') > 0 then (if (64 : Int) < at' then (64 : Int) else at') else 0) = (mt : Int) := by
    rw [← hmt]; unfold cut; split <;> split <;> omega
  have hm64 : mt ≤ 64 := by rw [← hmt]; unfold cut; omega
  have e0 : ∀ x, es.set ls[i].1 (tear 0 es[ls[i].1] x) = es := fun x => by simp [tear]
  have e64 : ∀ n, n ≤ 64 → (List.map cellV es).set ls[i].1 ((cellV es[ls[i].1]).setCells 0 (byN (ls[i].2.take n))) = List.map cellV (es.set ls[i].1 (tear n es[ls[i].1] ls[i].2)) := fun n h => by
    rw [setCells_tear (by omega), ← List.map_set]
  have e65 := e64 64 (Nat.le_refl _)
  rw [List.take_of_length_le (by omega)] at e65
  have hmm : Nat.min 64 mt = mt := Nat.min_eq_right hm64
  rw [eb] at hS
  have hkp : b1 = true → (byN kp)[i / 8]? = some (.int .u8 ((kp.getD (i / 8) 0 : Nat) : Int)) := by
    intro h
    rw [h] at hb1
    have : i / 8 < kp.length := by have := of_decide_eq_true hb1; rw [byN_len] at this; omega
    simp [byN, this]
  rw [byN_len] at hb1
  unfold bitP at hb2
  have h66 : ((64 : Nat) = 0) = False := by simp
  have h67 : Nat.min 64 64 = 64 := rfl
  have e66 := e64 64 (Nat.le_refl _)
  have e67 := e64 mt hm64
  clear eb e64 he hl hn
  obtain ⟨p, hz⟩ : ∃ p : Prop, (mt = 0) = p ∧ (p = True ∨ p = False) := by
    by_cases h : mt = 0
    · exact ⟨True, by simp [h], .inl rfl⟩
    · exact ⟨False, by simp [h], .inr rfl⟩
  obtain ⟨hz, hp⟩ := hz
  have hz0 : p = True → mt = 0 := by intro h; rw [h] at hz; simpa using hz
  rcases hp with rfl | rfl
  all_goals try (obtain rfl := hz0 rfl)
  all_goals cases fz <;> cases b1 <;> cases b2 <;> cases b3
  all_goals simp only [Bool.false_and, Bool.and_false, Bool.and_self, Bool.false_eq_true, if_true, if_false, e0] at hS
  all_goals (unfold S21 body21; (refine Vq.runO (And.intro hlt (And.intro hinc (And.intro hw2 (And.intro h64 (And.intro h1 (And.intro h2 (And.intro (take_by hw2) (And.intro (take_by h64) (And.intro (drop_by hw2) (And.intro hq (And.intro hr (And.intro hb1 (And.intro hb2 (And.intro hb3 (And.intro hkp (And.intro hx (And.intro hmm (And.intro h67 trivial)))))))))))))))))) (And.intro hz (And.intro h66 trivial)) ?_))
  all_goals ((try rw [e67]); (try rw [e66]); refine Qr_n (i + 1) ?_ hj; rw [hS]; kernel_rfl)
end
end L1
end Go.Vq

namespace Go.Vq
namespace L1
open Go
set_option maxRecDepth 1000000
set_option maxHeartbeats 4000000
def many (kp : List Nat) (torn at' : Int) (k : Nat) : Nat := if ((k : Int) == torn) = true then cut at' else if (decide (((k / 8 : Nat) : Int) < ((byN kp).length : Int)) && bitP (kp.getD (k / 8) 0) (k % 8)) = true then 64 else 0
def flA (kp : List Nat) (torn at' : Int) (es : List (List Nat)) (ls : List (Nat × List Nat)) : Nat → List (List Nat)
  | 0 => es
  | i + 1 => match ls[i]? with
    | some w => (flA kp torn at' es ls i).set w.1 (tear (many kp torn at' i) (flA kp torn at' es ls i)[w.1]! w.2)
    | none => flA kp torn at' es ls i
theorem flA_len (kp : List Nat) (torn at' : Int) (es : List (List Nat)) (ls : List (Nat × List Nat)) (i : Nat) : (flA kp torn at' es ls i).length = es.length := by
  induction i with
  | zero => rfl
  | succ i ih => simp only [flA]; split <;> simp [ih]
theorem tear_len {n : Nat} {old new : List Nat} (h1 : old.length = 64) (h2 : new.length = 64) : (tear n old new).length = 64 := by simp [tear, h1, h2]; omega
theorem flA_64 {kp : List Nat} {torn at' : Int} {es : List (List Nat)} {ls : List (Nat × List Nat)} (he : ∀ c ∈ es, c.length = 64) (hl : ∀ w ∈ ls, w.1 < es.length ∧ w.2.length = 64) (i : Nat) : ∀ c ∈ flA kp torn at' es ls i, c.length = 64 := by
  induction i with
  | zero => exact he
  | succ i ih =>
    simp only [flA]
    split
    · rename_i w hw
      have hw' := hl w (List.mem_of_getElem? hw)
      intro c hc
      rcases List.mem_or_eq_of_mem_set hc with h | h
      · exact ih c h
      · rw [h]
        refine tear_len ?_ hw'.2
        have hlt : w.1 < (flA kp torn at' es ls i).length := by rw [flA_len]; exact hw'.1
        rw [getElem!_pos (flA kp torn at' es ls i) w.1 hlt]
        exact ih _ (List.getElem_mem _)
    · exact ih
abbrev E21 (kp : List Nat) (torn at' : Int) (es : List (List Nat)) (fz : Bool) (ls : List (Nat × List Nat)) (off : Bool) (left : Int) : St :=
  ⟨(p0 :: .isl 0 1 (byN kp) :: .int .i64 torn :: .int .i64 at' :: .gone 0 :: .gone 0 :: .gone 0 :: .gone 0 :: .gone 0 :: .gone 0 :: .gone 0 :: p0 :: p0 :: .ptr (.obj 0 1) :: .srf (.obj 0 1) 0 65 0 ls.length :: .int .i64 ls.length :: .int .i64 ls.length :: .bool false :: .gone 0 :: .gone 0 :: .gone 0 :: .gone 0 :: .gone 0 :: .gone 0 :: .gone 0 :: .gone 0 :: .gone 0 :: .gone 0 :: .gone 0 :: .gone 0 :: .gone 0 :: .gone 0 :: .gone 0 :: .gone 0 :: .gone 0 :: .gone 0 :: .gone 0 :: .gone 0 :: .gone 0 :: .gone 0 :: .gone 0 :: .gone 0 :: .gone 0 :: .gone 0 :: .gone 0 :: .gone 0 :: .gone 0 :: .gone 0 :: .gone 0 :: .gone 0 :: .gone 0 :: .gone 0 :: .gone 0 :: .gone 0 :: .gone 0 :: .gone 0 :: .gone 0 :: .gone 0 :: .gone 0 :: .gone 0 :: .gone 0 :: .gone 0 :: .gone 0 :: .gone 0 :: .gone 0 :: .gone 0 :: []), [some (plateO es fz ls off left), none]⟩
section
variable (G : VProg)
theorem exit21 (kp : List Nat) (torn at' : Int) (es fz ls off left) (m : Nat) (S : Nat → St) (Q : Out → St → Prop) (J : Nat → Prop) (hq : Q (.exit 0) (E21 kp torn at' es fz ls off left)) :
    W (call G m) (itersOf G) (exec G m) 1 body21 (S21 kp torn at' es fz ls off left ls.length) (Qrnd (some [0, 1, 2, 3, 11, 12, 13, 14, 15, 16]) 1 S J Q) := by
  have hlt : decide ((ls.length : Int) < ls.length) = false := by simp
  unfold S21 body21
  (repeat' (first | (with_reducible apply Vq.WO_nil) | ((with_reducible apply Vq.WO_cons); (· first | exact rfl); (try simp only [z1, z2, z3, z4, z5, z6, z7, z8, z9, z10, z11, z12, z13, z14, z15, z16, z17, z18, List.length_map, V.withLeaves, V.borrow, zero1, freeze1, borrows, borrow1, V.leaves, V.nextg, Nat.reduceAdd, Nat.reduceSub, layTup, obj1, splice, Bool.false_eq_true, if_true, if_false, Bool.not_true, Bool.not_false, Vq.take_mapl, Int.toNat_natCast, Int.toNat_zero, Nat.add_zero, Nat.sub_zero, Nat.zero_add, Int.reduceToNat, hlt])) | (with_reducible first | apply Vq.W_seq | apply Vq.W_region | apply Vq.Qs_n | apply Vq.W_skip | apply Vq.W_ret | apply Vq.W_exit | apply Vq.W_block | apply Vq.Qs_r | apply Vq.Qs_e | apply Vq.Qb_n0 | apply Vq.Qb_x0 | apply Vq.Qb_r) | ((with_reducible apply Vq.Qb_ne); (· decide)) | ((with_reducible apply Vq.W_condT); (· exact rfl)) | ((with_reducible apply Vq.W_condF); (· exact rfl)) | ((first | ((with_reducible apply Vq.W_condD); (· exact rfl)) | ((with_reducible apply Vq.W_cond); (· exact rfl))); all_goals (intro hq; (try simp only [hq])))))
  exact Qr_x hq
theorem loop21 (kp : List Nat) (torn at' : Int) (es fz ls off left) (he : ∀ c ∈ es, c.length = 64) (hl : ∀ w ∈ ls, w.1 < es.length ∧ w.2.length = 64) (hn : ls.length < 2 ^ 40) (m : Nat) (hm : ls.length ≤ m) (σ : St) (hs : rebase? (some [0, 1, 2, 3, 11, 12, 13, 14, 15, 16]) 1 σ = S21 kp torn at' es fz ls off left 0) (Q : Out → St → Prop)
    (hq : Q (.exit 0) (E21 kp torn at' (flA kp torn at' es ls ls.length) fz ls off left)) :
    W (call G m) (itersOf G) (exec G m) 1 (.loop (some [0, 1, 2, 3, 11, 12, 13, 14, 15, 16]) body21) σ Q := by
  refine W_loop (fun i => S21 kp torn at' (flA kp torn at' es ls i) fz ls off left i) (fun i => i ≤ ls.length) (fun i => ls.length - i) 0 (fun i m _ hi => ?_) ls.length 0 m σ (Nat.zero_le _) (by omega) (by omega) hs
  by_cases h : i < ls.length
  · refine round21 G kp torn at' _ fz ls off left (flA_64 he hl i) (fun w hw => by rw [flA_len]; exact hl w hw) hn i m h _ _ _ rfl (fun _ => rfl) rfl _ rfl Q _ ⟨by omega, by omega⟩ _ ?_
    simp only [flA, List.getElem?_eq_getElem h, many]
  · obtain rfl : i = ls.length := by omega
    exact exit21 G kp torn at' _ fz ls off left m _ Q _ hq
theorem fail21 (hG21 : G 21 = some (.code v21)) (kp : List Nat) (torn at' : Int) (es fz ls off left) (he : ∀ c ∈ es, c.length = 64) (hl : ∀ w ∈ ls, w.1 < es.length ∧ w.2.length = 64) (hn : ls.length < 2 ^ 40) (n : Nat) (hm : ls.length + 2 ≤ n) :
    call G n 21 [p0, .isl 0 1 (byN kp), .int .i64 torn, .int .i64 at'] [plateO es fz ls off left] = some (.tup [], [plateO (flA kp torn at' es ls ls.length) false [] false (-1)]) := by
  cases fz
  all_goals
    (refine Vq.call_Wx (fn := v21) (body := b21) hG21 (by omega) ⟨rfl, by decide⟩ rfl (by (try simp only [Vq.start, List.length_cons, List.length_nil, List.map_cons, List.map_nil, List.cons_append, List.nil_append, List.replicate_succ, List.replicate_zero, Nat.reduceAdd, Nat.reduceSub, v21]); exact rfl) (by (try simp only [List.length_cons, List.length_nil, Nat.reduceAdd, Nat.zero_add]); exact rfl) (fun m hm => ?_); unfold b21; (repeat' (first | (with_reducible apply Vq.WO_nil) | ((with_reducible apply Vq.WO_cons); (· first | exact rfl); (try simp only [z1, z2, z3, z4, z5, z6, z7, z8, z9, z10, z11, z12, z13, z14, z15, z16, z17, z18, List.length_map, V.withLeaves, V.borrow, zero1, freeze1, borrows, borrow1, V.leaves, V.nextg, Nat.reduceAdd, Nat.reduceSub, layTup, obj1, splice, Bool.false_eq_true, if_true, if_false, Bool.not_true, Bool.not_false, Vq.take_mapl, Int.toNat_natCast, Int.toNat_zero, Nat.add_zero, Nat.sub_zero, Nat.zero_add, Int.reduceToNat])) | (with_reducible first | apply Vq.W_seq | apply Vq.W_region | apply Vq.Qs_n | apply Vq.W_skip | apply Vq.W_ret | apply Vq.W_exit | apply Vq.W_block | apply Vq.Qs_r | apply Vq.Qs_e | apply Vq.Qb_n0 | apply Vq.Qb_x0 | apply Vq.Qb_r) | ((with_reducible apply Vq.Qb_ne); (· decide)) | ((with_reducible apply Vq.W_condT); (· exact rfl)) | ((with_reducible apply Vq.W_condF); (· exact rfl)) | ((first | ((with_reducible apply Vq.W_condD); (· exact rfl)) | ((with_reducible apply Vq.W_cond); (· exact rfl))); all_goals (intro hq; (try simp only [hq]))))))
  · refine loop21 G kp torn at' es false ls off left he hl hn m (by omega) _ (by kernel_rfl) _ ?_
    refine Qb_x (σ1 := ⟨(p0 :: .gone 0 :: .gone 0 :: .gone 0 :: .gone 0 :: .gone 0 :: .gone 0 :: .gone 0 :: .gone 0 :: .gone 0 :: .gone 0 :: .gone 0 :: .gone 0 :: .gone 0 :: .gone 0 :: .gone 0 :: .gone 0 :: .gone 0 :: .gone 0 :: .gone 0 :: .gone 0 :: .gone 0 :: .gone 0 :: .gone 0 :: .gone 0 :: .gone 0 :: .gone 0 :: .gone 0 :: .gone 0 :: .gone 0 :: .gone 0 :: .gone 0 :: .gone 0 :: .gone 0 :: .gone 0 :: .gone 0 :: .gone 0 :: .gone 0 :: .gone 0 :: .gone 0 :: .gone 0 :: .gone 0 :: .gone 0 :: .gone 0 :: .gone 0 :: .gone 0 :: .gone 0 :: .gone 0 :: .gone 0 :: .gone 0 :: .gone 0 :: .gone 0 :: .gone 0 :: .gone 0 :: .gone 0 :: .gone 0 :: .gone 0 :: .gone 0 :: .gone 0 :: .gone 0 :: .gone 0 :: .gone 0 :: .gone 0 :: .gone 0 :: .gone 0 :: .gone 0 :: []), [some (plateO (flA kp torn at' es ls ls.length) false ls off left), none]⟩) (by kernel_rfl) ?_
    (repeat' (first | (with_reducible apply Vq.WO_nil) | ((with_reducible apply Vq.WO_cons); (· first | exact rfl); (try simp only [z1, z2, z3, z4, z5, z6, z7, z8, z9, z10, z11, z12, z13, z14, z15, z16, z17, z18, List.length_map, V.withLeaves, V.borrow, zero1, freeze1, borrows, borrow1, V.leaves, V.nextg, Nat.reduceAdd, Nat.reduceSub, layTup, obj1, splice, Bool.false_eq_true, if_true, if_false, Bool.not_true, Bool.not_false, Vq.take_mapl, Int.toNat_natCast, Int.toNat_zero, Nat.add_zero, Nat.sub_zero, Nat.zero_add, Int.reduceToNat])) | (with_reducible first | apply Vq.W_seq | apply Vq.W_region | apply Vq.Qs_n | apply Vq.W_skip | apply Vq.W_ret | apply Vq.W_exit | apply Vq.W_block | apply Vq.Qs_r | apply Vq.Qs_e | apply Vq.Qb_n0 | apply Vq.Qb_x0 | apply Vq.Qb_r) | ((with_reducible apply Vq.Qb_ne); (· decide)) | ((with_reducible apply Vq.W_condT); (· exact rfl)) | ((with_reducible apply Vq.W_condF); (· exact rfl)) | ((first | ((with_reducible apply Vq.W_condD); (· exact rfl)) | ((with_reducible apply Vq.W_cond); (· exact rfl))); all_goals (intro hq; (try simp only [hq])))))
    first | (refine Vq.Qe_r ?_; first | kernel_rfl | exact rfl) | (refine Vq.Qe_n ?_; first | kernel_rfl | exact rfl)
  · refine loop21 G kp torn at' es true ls off left he hl hn m (by omega) _ (by kernel_rfl) _ ?_
    refine Qb_x (σ1 := ⟨(p0 :: .gone 0 :: .gone 0 :: .gone 0 :: .gone 0 :: .gone 0 :: .gone 0 :: .gone 0 :: .gone 0 :: .gone 0 :: .gone 0 :: .gone 0 :: .gone 0 :: .gone 0 :: .gone 0 :: .gone 0 :: .gone 0 :: .gone 0 :: .gone 0 :: .gone 0 :: .gone 0 :: .gone 0 :: .gone 0 :: .gone 0 :: .gone 0 :: .gone 0 :: .gone 0 :: .gone 0 :: .gone 0 :: .gone 0 :: .gone 0 :: .gone 0 :: .gone 0 :: .gone 0 :: .gone 0 :: .gone 0 :: .gone 0 :: .gone 0 :: .gone 0 :: .gone 0 :: .gone 0 :: .gone 0 :: .gone 0 :: .gone 0 :: .gone 0 :: .gone 0 :: .gone 0 :: .gone 0 :: .gone 0 :: .gone 0 :: .gone 0 :: .gone 0 :: .gone 0 :: .gone 0 :: .gone 0 :: .gone 0 :: .gone 0 :: .gone 0 :: .gone 0 :: .gone 0 :: .gone 0 :: .gone 0 :: .gone 0 :: .gone 0 :: .gone 0 :: .gone 0 :: []), [some (plateO (flA kp torn at' es ls ls.length) true ls off left), none]⟩) (by kernel_rfl) ?_
    (repeat' (first | (with_reducible apply Vq.WO_nil) | ((with_reducible apply Vq.WO_cons); (· first | exact rfl); (try simp only [z1, z2, z3, z4, z5, z6, z7, z8, z9, z10, z11, z12, z13, z14, z15, z16, z17, z18, List.length_map, V.withLeaves, V.borrow, zero1, freeze1, borrows, borrow1, V.leaves, V.nextg, Nat.reduceAdd, Nat.reduceSub, layTup, obj1, splice, Bool.false_eq_true, if_true, if_false, Bool.not_true, Bool.not_false, Vq.take_mapl, Int.toNat_natCast, Int.toNat_zero, Nat.add_zero, Nat.sub_zero, Nat.zero_add, Int.reduceToNat])) | (with_reducible first | apply Vq.W_seq | apply Vq.W_region | apply Vq.Qs_n | apply Vq.W_skip | apply Vq.W_ret | apply Vq.W_exit | apply Vq.W_block | apply Vq.Qs_r | apply Vq.Qs_e | apply Vq.Qb_n0 | apply Vq.Qb_x0 | apply Vq.Qb_r) | ((with_reducible apply Vq.Qb_ne); (· decide)) | ((with_reducible apply Vq.W_condT); (· exact rfl)) | ((with_reducible apply Vq.W_condF); (· exact rfl)) | ((first | ((with_reducible apply Vq.W_condD); (· exact rfl)) | ((with_reducible apply Vq.W_cond); (· exact rfl))); all_goals (intro hq; (try simp only [hq])))))
    first | (refine Vq.Qe_r ?_; first | kernel_rfl | exact rfl) | (refine Vq.Qe_n ?_; first | kernel_rfl | exact rfl)
end
end L1
end Go.Vq

namespace Go.Vq
namespace L1
open Go
set_option maxRecDepth 1000000
set_option maxHeartbeats 4000000
/-- packhorse/packhorselaw07.cell -/
def b17 : VCode := .seq (.region [⟨some 2, .alloc 0 (Z8 64), none, 0⟩] false) (.seq (.region [⟨some 5, .build (Z8 64) [], none, 0⟩, ⟨some 3, .alloc 1 (Z8 64), none, 0⟩, ⟨none, .store 64 (.tmp 3) (.tmp 5), none, 3⟩] false) (.seq (.seq (.region [⟨some 6, .move (.val (.int .i64 0)), none, 0⟩] false) (.block 0 (some [0, 2, 3]) (.loop (some [0, 2, 3, 6]) (.seq (.region [⟨some 7, .bin (.lss) (.tmp 6) (.val (.int .i64 64)), none, 0⟩] false) (.seq (.cond (.tmp 7) (.skip) (.exit 0)) (.seq (.block 1 none (.seq (.region [⟨some 8, .move (.tmp 6), none, 0⟩, ⟨some 4, .assign (.tmp 8), none, 1⟩] false) (.region [⟨some 9, .move (.tmp 4), none, 0⟩, ⟨some 10, .move (.tmp 0), none, 0⟩, ⟨some 11, .indexAddr (some 64) 1 (.tmp 3) (.tmp 9), none, 3⟩, ⟨none, .store 1 (.tmp 11) (.tmp 10), none, 7⟩] false))) (.region [⟨some 12, .bin (.add) (.tmp 6) (.val (.int .i64 1)), none, 0⟩, ⟨some 6, .move (.tmp 12), none, 1⟩] false))))))) (.seq (.region [⟨some 13, .move (.tmp 0), none, 0⟩, ⟨some 14, .bin (.add) (.tmp 13) (.val (.int .u8 1)), none, 1⟩, ⟨some 15, .indexAddr (some 64) 1 (.tmp 3) (.val (.int .i64 0)), none, 3⟩, ⟨none, .store 1 (.tmp 15) (.tmp 14), none, 7⟩] false) (.seq (.region [⟨some 16, .load true 64 (.tmp 3), none, 0⟩, ⟨none, .store 64 (.tmp 2) (.tmp 16), none, 1⟩] false) (.ret)))))
def v17 : VFunc := { nparams := 1, ntmps := 17, nsites := 2, results := [.cell 2 true 64], body := b17 }

/-- A cell all of one byte, but for the first one. -/
def cellOf (v : Nat) : List Nat := (v + 1) % 256 :: List.replicate 63 v
theorem cellOf_len (v : Nat) : (cellOf v).length = 64 := rfl
theorem S4w8 (n : Int) : IntKind.u8.wrap n = n % 256 := by
  simp only [IntKind.wrap, IntKind.bits, IntKind.signed]; simp
theorem cell17 (G : VProg) (hG17 : G 17 = some (.code v17)) (v : Nat) (n : Nat) (hn : 70 ≤ n) : call G n 17 [.int .u8 (v : Int)] [] = some (cellV (cellOf v), []) := by
  obtain ⟨k, rfl⟩ : ∃ k, n = k + 70 := ⟨n - 70, by omega⟩
  have e : IntKind.u8.wrap ((v : Int) + 1) = (((v + 1) % 256 : Nat) : Int) := by rw [S4w8]; omega
  have e1 : cellV (cellOf v) = .agg (.int .u8 (IntKind.u8.wrap ((v : Int) + 1)) :: List.replicate 63 (.int .u8 (v : Int))) := by
    rw [e]; simp [cellV, cellOf, byN]
  rw [e1]
  unfold call callWith
  rw [hG17]
  show _ = _
  kernel_rfl
theorem eqvs_by : ∀ (n : Nat) (c : List Nat), c.length = n → eqvs (List.replicate n (.int .u8)) (byN c) (byN c) = some true
  | 0, [], _ => rfl
  | n + 1, x :: c, h => by
    simp only [List.replicate_succ, byN_cons, eqvs, eqv1, and_self, if_true, beq_self_eq_true, eqvs_by n c (by simpa using h)]; rfl
theorem eqV_cells (ks : List CK) (a b : List V) : eqV (.cells ks) (.agg a) (.agg b) = eqvs ks a b := rfl
theorem getC_len {es : List (List Nat)} {ls : List (Nat × List Nat)} (he : ∀ c ∈ es, c.length = 64) (hl : ∀ w ∈ ls, w.2.length = 64) (i : Int) : (getC es ls i).length = 64 := by
  unfold getC
  split
  · rename_i h
    cases hf : find ls i with
    | some c =>
      unfold find at hf
      obtain ⟨w, hw, rfl⟩ := Option.map_eq_some_iff.1 hf
      exact hl w (List.mem_reverse.1 (List.mem_of_find?_eq_some hw))
    | none =>
      have hin : i.toNat < es.length := by simp [inR] at h; omega
      simp only [Option.getD_none, List.getD_eq_getElem?_getD, List.getElem?_eq_getElem hin, Option.getD_some]
      exact he _ (List.getElem_mem _)
  · rfl
abbrev LR (left : Int) : Prop := -1 ≤ left ∧ left < 9223372036854775808
/-- What the functions of plate answer. -/
structure Plate (G : VProg) : Prop where
  new : ∀ (n : Int) (m : Nat), 1 ≤ m → call G m 15 [.int .i64 n] [] = some (p0, [plateO (List.replicate (max 0 (min n 4096)).toNat zero64) false [] false (-1)])
  put : ∀ (i : Int) (c : List Nat) (_ : c.length = 64) es fz ls off left (_ : (ls.length + 1) * 72 ≤ 140737488355328) (_ : LR left) (n : Nat) (_ : 2 ≤ n),
    call G n 16 [p0, .int .i64 i, cellV c] [plateO es fz ls off left] = if inR i es.length then (if spO off left then some (.int .i64 72, [plateO es fz ls true left]) else some (.int .i64 0, [plateO es fz (ls ++ [(i.toNat, c)]) false (spL off left)])) else some (.int .i64 71, [plateO es fz ls off left])
  flush : ∀ es fz ls off left (_ : ∀ c ∈ es, c.length = 64) (_ : ∀ w ∈ ls, w.1 < es.length ∧ w.2.length = 64) (_ : ls.length < 2 ^ 40) (_ : LR left) (n : Nat) (_ : ls.length + 2 ≤ n),
    call G n 18 [p0] [plateO es fz ls off left] = if spO off left then some (.int .i64 72, [plateO es fz ls true left]) else some (.int .i64 0, [plateO (ls.foldl wr es) false [] false (spL off left)])
  loose : ∀ es fz ls off left (n : Nat), 1 ≤ n → call G n 19 [p0] [plateO es fz ls off left] = some (.int .i64 ls.length, [plateO es fz ls off left])
  get : ∀ (i : Int) es fz ls off left (_ : ∀ c ∈ es, c.length = 64) (_ : ∀ w ∈ ls, w.2.length = 64) (_ : ls.length < 2 ^ 40) (n : Nat) (_ : 2 ≤ n),
    call G n 20 [p0, .int .i64 i] [plateO es fz ls off left] = some (.tup [cellV (getC es ls i), .int .i64 (if inR i es.length then 0 else 71)], [plateO es (if inR i es.length then true else fz) ls off left])
  fail : ∀ (kp : List Nat) (torn at' : Int) es fz ls off left (_ : ∀ c ∈ es, c.length = 64) (_ : ∀ w ∈ ls, w.1 < es.length ∧ w.2.length = 64) (_ : ls.length < 2 ^ 40) (n : Nat) (_ : ls.length + 2 ≤ n),
    call G n 21 [p0, .isl 0 1 (byN kp), .int .i64 torn, .int .i64 at'] [plateO es fz ls off left] = some (.tup [], [plateO (flA kp torn at' es ls ls.length) false [] false (-1)])
  limit : ∀ (i : Int) es fz ls off left (n : Nat), 1 ≤ n → call G n 22 [p0, .int .i64 i] [plateO es fz ls off left] = some (.tup [], [plateO es fz ls off (if -1 > i then -1 else i)])
  off : ∀ es fz ls off left (n : Nat), 1 ≤ n → call G n 23 [p0] [plateO es fz ls off left] = some (.bool off, [plateO es fz ls off left])
  len : ∀ es fz ls off left (n : Nat), 1 ≤ n → call G n 24 [p0] [plateO es fz ls off left] = some (.int .i64 es.length, [plateO es fz ls off left])
theorem plate_ok (G : VProg) (hG15 : G 15 = some (.code v15)) (hG16 : G 16 = some (.code v16)) (hG18 : G 18 = some (.code v18)) (hG19 : G 19 = some (.code v19)) (hG20 : G 20 = some (.code v20)) (hG21 : G 21 = some (.code v21)) (hG22 : G 22 = some (.code v22)) (hG23 : G 23 = some (.code v23)) (hG24 : G 24 = some (.code v24))
    (hG45 : G 45 = some (.code v45)) (hG46 : G 46 = some (.code v46)) (hG47 : G 47 = some (.code v47)) (hG54 : G 54 = some (.iter (backwardI true 65))) : Plate G := by
  have h45 := fun i es fz ls off left m (hm : 1 ≤ m) => there45 G hG45 i es fz ls off left m hm
  have h46 := fun es fz ls off left m (hm : 1 ≤ m) hl => spend46 G hG46 es fz ls off left hl m hm
  have h47 := fun es m hm => back47 G hG47 es m hm
  exact ⟨fun n m hm => new15 G hG15 n m hm, fun i c hc es fz ls off left hb hl n hn => put16 G hG16 h45 h46 i c hc es fz ls off left hb hl n hn,
    fun es fz ls off left he hw hb hl n hn => flush18 G hG18 h46 es fz ls off left he hw hb hl n hn, fun es fz ls off left n hn => loose19 G hG19 es fz ls off left n hn,
    fun i es fz ls off left he hw hb n hn => get20 G hG20 hG54 h45 h47 i es fz ls off left he hw hb n hn, fun kp torn at' es fz ls off left he hl hb n hn => fail21 G hG21 kp torn at' es fz ls off left he hl hb n hn,
    fun i es fz ls off left n hn => limit22 G hG22 i es fz ls off left n hn, fun es fz ls off left n hn => off23 G hG23 es fz ls off left n hn, fun es fz ls off left n hn => len24 G hG24 es fz ls off left n hn⟩
end L1
end Go.Vq

