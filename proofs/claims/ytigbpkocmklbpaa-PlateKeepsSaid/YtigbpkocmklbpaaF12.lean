/- A machine of values and its tie to the model, and runs of it: part 12 of 14 (no law of Go is stated here). -/
import Derived.Test.YtigbpkocmklbpaaF11
import Derived.KernelRfl
set_option linter.unusedVariables false
set_option linter.unusedSimpArgs false
set_option linter.unusedSectionVars false
set_option linter.unusedVariables false
set_option maxRecDepth 1000000
namespace Go.Vq
section
variable {G : VProg} {base : Nat} {σ σ1 : St} {Q : Out → St → Prop}
abbrev WL (G : VProg) (base : Nat) (c : VCode) (σ : St) (Q : Out → St → Prop) : Prop := W (lim G) (itersOf G) (limX G) base c σ Q
theorem lim_W {f : FuncId} {fn : VFunc} {args : List V} {objs : List Obj} {res : V × List Obj} (hf : G f = some (.code fn)) (hl : args.length = fn.nparams ∧ fn.nparams ≤ fn.ntmps) (h : WL G objs.length fn.body (start fn args objs) (Qend fn objs.length (some res))) : lim G f args objs = some res := by
  obtain ⟨o, s, h1, h2, h3⟩ := h
  exact lim_code hf hl h1 h2 h3
theorem lim_fun {f : FuncId} {fn : VFunc} {args : List V} {objs : List Obj} {res : V × List Obj} {body : VCode} {σ0 : St} {base : Nat} (hf : G f = some (.code fn)) (hl : args.length = fn.nparams ∧ fn.nparams ≤ fn.ntmps := by exact ⟨rfl, by decide⟩) (hb : fn.body = body := by rfl) (hs : start fn args objs = σ0 := by (simp only [Vq.start, List.length_cons, List.length_nil, List.map_cons, List.map_nil, List.cons_append, List.nil_append, List.replicate_succ, List.replicate_zero, Nat.reduceAdd, Nat.reduceSub]; exact rfl)) (hbs : objs.length = base := by (simp only [List.length_cons, List.length_nil, Nat.reduceAdd]; exact rfl))
    (h : WL G base body σ0 (Qend fn base (some res))) : lim G f args objs = some res := by
  subst hb hs hbs
  exact lim_W hf hl h
theorem WL_loop {α : Type} {keep : Option (List Nat)} {body : VCode} (S : α → St) (I : α → Prop) (μ : α → Nat)
    (hr : ∀ a, I a → WL G base body (S a) (Qrnd keep base S (fun b => I b ∧ μ b < μ a) Q)) (a : α) (σ : St) (hI : I a) (hs : rebase? keep base σ = S a) : WL G base (.loop keep body) σ Q := by
  have key : ∀ (k : Nat) (a : α) (σ : St), I a → μ a ≤ k → rebase? keep base σ = S a → WL G base (.loop keep body) σ Q := by
    intro k
    induction k with
    | zero =>
      intro a σ hI hk hs
      obtain ⟨o, s, h1, h2⟩ := hr a hI
      rcases h2 with ⟨rfl, b, h3, h4, h5⟩ | ⟨h3, h4⟩
      · omega
      · exact ⟨o, s, step_loop_out hs h1 h3, h4⟩
    | succ k ih =>
      intro a σ hI hk hs
      obtain ⟨o, s, h1, h2⟩ := hr a hI
      rcases h2 with ⟨rfl, b, h3, h4, h5⟩ | ⟨h3, h4⟩
      · obtain ⟨o', s', h6, h7⟩ := ih b s h4 (by omega) h3
        exact ⟨o', s', step_loop hs h1 (limX_step h6), h7⟩
      · exact ⟨o, s, step_loop_out hs h1 h3, h4⟩
  exact key (μ a) a σ hI (Nat.le_refl _) hs
theorem gLim {f : FuncId} {a : List V} {o : List Obj} {r : V × List Obj} (h : lim G f a o = some r) : lim G f a o = some r := h
end
theorem byN_takeL (l : List Nat) : (byN l).take l.length = byN l := take_by rfl
section
variable {σ τ : St} {rs ws r0 r1 : List Loc} {t : Nat} {us vs : List V} {xs : List Opd}
theorem PA_S {h0 : Home} {g sz off len : Nat} {own : Bool} {es : List V} (h : σ.slots[t]? = some (.srf h0 g sz off len)) (ha : ∀ (k' : Bool → List V → Prog), PR (k' own es) σ (r1 ++ rs) ws τ → PR (gElems h0 g sz k') σ (r0 ++ (r1 ++ rs)) ws τ) (hl : off + len ≤ es.length) (hv : (es.drop off).take len = us)
    (hr : ∀ (k : List V → Prog), PR (k vs) σ rs ws τ → PR (presArgs xs k) σ (r1 ++ rs) ws τ) : ∀ (k : List V → Prog), PR (k (.isl 0 sz us :: vs)) σ rs ws τ → PR (presArgs (.tmp t :: xs) k) σ ((.slot t :: (r0 ++ r1)) ++ rs) ws τ := by
  intro k h2
  subst hv
  rw [List.cons_append, List.append_assoc]
  refine PR_getS h ?_
  show PR (gElems h0 g sz fun _ es => if off + len ≤ es.length then presArgs xs (fun vs => k (.isl 0 sz ((es.drop off).take len) :: vs)) else .fail) σ _ ws τ
  refine ha _ ?_
  simp only [if_pos hl]
  exact hr (fun vs => k (.isl 0 sz ((es.drop off).take len) :: vs)) h2
theorem PR_keepsR {mk : Nat → Option Home} {i : Nat} {h0 : Home} {g sz off len : Nat} {vs : List V} {k : List V → Prog} (hm : mk i = some h0) (h : PR (settle1 (some h0) (.srf h0 g sz off len) fun v' => keeps mk (i + 1) vs fun vs' => k (v' :: vs')) σ rs ws τ) :
    PR (keeps mk i (.srf h0 g sz off len :: vs) k) σ rs ws τ := by simp only [keeps, keep1, hm, if_true]; exact h
theorem PA_G {v : V} (h : σ.slots[t]? = some v) (hnt : ∀ us, v ≠ .tup us) (hp : ∀ (k : List V → Prog), PR (k us) σ (r1 ++ rs) ws τ → PR (press v.leaves k) σ (r0 ++ (r1 ++ rs)) ws τ)
    (hr : ∀ (k : List V → Prog), PR (k vs) σ rs ws τ → PR (presArgs xs k) σ (r1 ++ rs) ws τ) : ∀ (k : List V → Prog), PR (k (v.withLeaves us :: vs)) σ rs ws τ → PR (presArgs (.tmp t :: xs) k) σ ((.slot t :: (r0 ++ r1)) ++ rs) ws τ := by
  intro k h2
  rw [List.cons_append, List.append_assoc]
  refine PR_getS h ?_
  have := hp (fun ls => presArgs xs fun vs => k (v.withLeaves ls :: vs)) (hr (fun vs => k (v.withLeaves us :: vs)) h2)
  cases v <;> first | exact this | exact absurd rfl (hnt _)
theorem PA_A {o off len : Nat} {cs ys zs : List V} (h : σ.slots[t]? = some (.asl (.obj o off) len)) (ho : σ.objs[o]? = some (some (.cells cs))) (hl : off + len ≤ cs.length) (hv : (cs.drop off).take len = ys) (hb : borrows (fun i => .obj o (off + i)) 0 ys = zs) (hf : zs.all V.flat = true)
    (hr : ∀ (k : List V → Prog), PR (k vs) σ rs ws τ → PR (presArgs xs k) σ (r1 ++ rs) ws τ) : ∀ (k : List V → Prog), PR (k (.isl 0 1 zs :: vs)) σ rs ws τ → PR (presArgs (.tmp t :: xs) k) σ ((.slot t :: .obj o :: r1) ++ rs) ws τ := by
  intro k h2
  rw [List.cons_append]
  refine PR_getS h ?_
  rw [List.cons_append]
  show PR (gCells (.obj o off) len fun cs => if cs.all V.flat then presArgs xs (fun vs => k (.isl 0 1 cs :: vs)) else .fail) σ _ ws τ
  refine PR_cellsO ho hl hv hb ?_
  simp only [hf, if_true]
  exact hr (fun vs => k (.isl 0 1 zs :: vs)) h2
theorem P0_nil : ∀ (k : List V → Prog), PR (k []) σ rs ws τ → PR (press0 [] k) σ rs ws τ := fun _ h => h
theorem P0_c {v v' : V} {ls : List V} (h : ∀ k, pres0 v k = k v') (hr : ∀ (k : List V → Prog), PR (k us) σ rs ws τ → PR (press0 ls k) σ rs ws τ) : ∀ (k : List V → Prog), PR (k (v' :: us)) σ rs ws τ → PR (press0 (v :: ls) k) σ rs ws τ := by
  intro k h2
  simp only [press0, h]
  exact hr (fun vs => k (v' :: vs)) h2
theorem PA_P {o off : Nat} {cs ls : List V} (h : σ.slots[t]? = some (.ptr (.obj o off))) (ho : σ.objs[o]? = some (some (.cells cs))) (hp : ∀ (k : List V → Prog), PR (k ls) σ (r1 ++ rs) ws τ → PR (press0 (cs.drop off) k) σ (r1 ++ rs) ws τ) (hall : ls.all V.inElem = true)
    (hr : ∀ (k : List V → Prog), PR (k vs) σ rs ws τ → PR (presArgs xs k) σ (r1 ++ rs) ws τ) : ∀ (k : List V → Prog), PR (k (.iptr ls :: vs)) σ rs ws τ → PR (presArgs (.tmp t :: xs) k) σ ((.slot t :: .obj o :: r1) ++ rs) ws τ := by
  intro k h2
  rw [List.cons_append]
  refine PR_getS h ?_
  rw [List.cons_append]
  show PR (.getO o fun | some (.cells cs) => press0 (cs.drop off) fun ls => if ls.all V.inElem then presArgs xs (fun vs => k (.iptr ls :: vs)) else .fail | _ => .fail) σ _ ws τ
  refine PR_getO ho ?_
  refine hp _ ?_
  simp only [hall, if_true]
  exact hr (fun vs => k (.iptr ls :: vs)) h2
theorem PS_nil : ∀ (k : List V → Prog), PR (k []) σ rs ws τ → PR (press [] k) σ ([] ++ rs) ws τ := fun _ h => h
theorem PS_c {v : V} {ls : List V} (h : ∀ k, pres1 v k = k v) (hr : ∀ (k : List V → Prog), PR (k us) σ rs ws τ → PR (press ls k) σ (r0 ++ rs) ws τ) : ∀ (k : List V → Prog), PR (k (v :: us)) σ rs ws τ → PR (press (v :: ls) k) σ (r0 ++ rs) ws τ := by
  intro k h2
  simp only [press, h]
  exact hr (fun vs => k (v :: vs)) h2
theorem PS_s {h0 : Home} {g sz off len : Nat} {own : Bool} {es ls es' : List V} (ha : ∀ (k' : Bool → List V → Prog), PR (k' own es) σ (r1 ++ rs) ws τ → PR (gElems h0 g sz k') σ (r0 ++ (r1 ++ rs)) ws τ) (hl : off + len ≤ es.length) (hv : (es.drop off).take len = es')
    (hr : ∀ (k : List V → Prog), PR (k us) σ rs ws τ → PR (press ls k) σ (r1 ++ rs) ws τ) : ∀ (k : List V → Prog), PR (k (.isl 0 sz es' :: us)) σ rs ws τ → PR (press (.srf h0 g sz off len :: ls) k) σ ((r0 ++ r1) ++ rs) ws τ := by
  intro k h2
  subst hv
  rw [List.append_assoc]
  show PR (gElems h0 g sz fun _ es => if off + len ≤ es.length then press ls (fun vs => k (.isl 0 sz ((es.drop off).take len) :: vs)) else .fail) σ _ ws τ
  refine ha _ ?_
  simp only [if_pos hl]
  exact hr (fun vs => k (.isl 0 sz ((es.drop off).take len) :: vs)) h2
end
theorem runV {c d p q : Prop} (s : c) (u : d) (hq : q) (h : c → d → Vq.Hid q → p := by (intro s u hQ; (repeat' (first | ((with_reducible apply Vq.gPR); (first | ((with_reducible first | apply Vq.PR_opdT | apply Vq.PR_intT); (· exact rfl); (try dsimp only)) | (with_reducible first | apply Vq.PR_putO | exact Vq.PR_ret | apply Vq.PR_optV) | ((first | (with_reducible apply Vq.PO_n) | ((with_reducible apply Vq.PO_t); (· exact rfl)) | ((with_reducible apply Vq.PO_f); (· exact rfl); (· exact rfl)) | ((with_reducible apply Vq.PO_u); (· exact rfl))); dsimp only [Vq.opProg, Vq.skipP, Vq.gOptInt, Vq.gThere]) | ((with_reducible first | apply Vq.PR_opdV | apply Vq.PR_intV | apply Vq.PR_boolV | apply Vq.PR_putN | apply Vq.PR_drainV | apply Vq.PR_build | apply Vq.PR_build0 | apply Vq.PR_buildS | apply Vq.PR_buildS0); (try dsimp only)) | ((with_reducible first | apply Vq.PR_gMoveP | apply Vq.PR_gKeepP | apply Vq.PR_gImmP); (· exact rfl); (· exact rfl); (try dsimp only)) | ((with_reducible first | apply Vq.PR_gMove | apply Vq.PR_gKeep | apply Vq.PR_gImm); (· exact rfl); (· exact rfl); (try dsimp only [Vq.V.leaves])) | ((with_reducible first | apply Vq.PR_gMoveV | apply Vq.PR_gKeepV | apply Vq.PR_gImmV); (try dsimp only); rotate_left; (· exact rfl)) | ((with_reducible apply Vq.PR_drain1); (· exact rfl); (· exact rfl)) | ((with_reducible apply Vq.PR_keepsR); (· exact rfl); (try dsimp only)) | ((with_reducible apply Vq.PR_settleR); (try dsimp only)) | (with_reducible first | apply Vq.PR_drain0 | apply Vq.PR_settle | apply Vq.PR_keeps | apply Vq.PR_cellsO | apply Vq.PR_scellsO | apply Vq.PR_shomeO | apply Vq.PR_shomeS | apply Vq.PR_setS | apply Vq.PR_setO) | ((with_reducible first | apply Vq.PR_boolT | apply Vq.PR_getS | apply Vq.PR_getO); (· exact rfl); (try dsimp only)) | ((with_reducible first | apply Vq.PR_elemsO | apply Vq.PR_elemsS); (· exact rfl); (· exact rfl); (· exact rfl); (try dsimp only)) | ((with_reducible first | apply Vq.PR_cellsE | apply Vq.PR_scellsE | apply Vq.PR_viewR); (· first | (apply Vq.PR_aelO; (· exact rfl); (· exact rfl); (· exact rfl)) | (apply Vq.PR_aelS; (· exact rfl); (· exact rfl); (· exact rfl)))) | ((with_reducible apply Vq.PR_viewA); (· exact rfl)) | ((with_reducible first | apply Vq.PR_view | apply Vq.PR_len); (· exact rfl); (try dsimp only)) | ((with_reducible first | apply Vq.PR_call | apply Vq.PR_lendN | apply Vq.PR_reachN | apply Vq.PR_getObN | apply Vq.PR_setObN | apply Vq.PR_newObN | apply Vq.PR_theres) <;> (try simp only [Vq.idsIn_by, Vq.idsIn_c, Vq.idsIn_n, Vq.ids_agg, Vq.ids_ptr, Vq.ids_int, Vq.ids_bool, Vq.ids_str, Vq.ids_isl, Vq.ids_xsl, Vq.ids_fsl, Vq.ids_nilS, List.nil_append, List.cons_append, List.append_nil])) | ((with_reducible apply Vq.PR_lendT); (· exact rfl); (· intro _ e; cases e); (try simp only [Vq.V.leaves, Vq.borrows_by, Vq.borrows, Vq.borrow1, Vq.V.withLeaves, List.headD_cons, List.map_cons, List.map_nil])) | ((with_reducible apply Vq.PR_lendV); (· intro _ e; cases e); (try dsimp only)) | ((with_reducible apply Vq.PR_calliR); (· exact rfl); (· first | (apply Vq.PR_aelO; (· exact rfl); (· exact rfl); (· exact rfl)) | (apply Vq.PR_aelS; (· exact rfl); (· exact rfl); (· exact rfl))); (· assumption)) | ((with_reducible apply Vq.PR_calli0); (· exact rfl); (· first | (apply Vq.PR_aelO; (· exact rfl); (· exact rfl); (· exact rfl)) | (apply Vq.PR_aelS; (· exact rfl); (· exact rfl); (· exact rfl))); (· exact rfl)) | ((with_reducible first | apply Vq.PR_callR | apply Vq.PR_moveN) <;> (try simp only [Vq.idsIn_by, Vq.idsIn_c, Vq.idsIn_n, Vq.ids_agg, Vq.ids_ptr, Vq.ids_int, Vq.ids_bool, Vq.ids_str, Vq.ids_isl, Vq.ids_xsl, Vq.ids_fsl, Vq.ids_nilS, List.nil_append, List.cons_append, List.append_nil])) | ((with_reducible apply Vq.PR_moveT); (· exact rfl); (· exact rfl); (try dsimp only)) | ((with_reducible apply Vq.PR_moveV); (· exact rfl); (try dsimp only)) | ((with_reducible apply Vq.PR_move0T); (· exact rfl); (· exact rfl); (· intro _ e; cases e); (try simp only [Vq.V.leaves, Vq.borrows_by, Vq.borrows, Vq.borrow1, Vq.V.withLeaves, List.headD_cons, List.map_cons, List.map_nil])) | ((with_reducible apply Vq.PR_move0V); (· exact rfl); (· intro _ e; cases e); (try dsimp only)) | ((with_reducible apply Vq.PR_reachC); (· decide); (· exact rfl); (try simp only [Vq.idsIn_by, Vq.idsIn_c, Vq.idsIn_n, Vq.ids_agg, Vq.ids_ptr, Vq.ids_int, Vq.ids_bool, Vq.ids_str, Vq.ids_isl, Vq.ids_xsl, Vq.ids_fsl, Vq.ids_nilS, List.nil_append, List.cons_append, List.append_nil])) | ((with_reducible apply Vq.PR_reachS); (· decide)) | ((with_reducible first | apply Vq.PR_getObC | apply Vq.PR_newObC); (· exact rfl)) | (with_reducible apply Vq.PR_callA) | ((with_reducible apply Vq.gReach); simp only [Vq.idsIn_by, Vq.idsIn_c, Vq.idsIn_n, Vq.ids_agg, Vq.ids_ptr, Vq.ids_int, Vq.ids_bool, Vq.ids_str, Vq.ids_isl, Vq.ids_xsl, Vq.ids_fsl, Vq.ids_nilS, List.nil_append, List.cons_append, List.append_nil, List.headD_cons, List.map_cons, List.map_nil, Vq.freeze1]) | ((with_reducible apply Vq.PR_callK); (· decide)) | ((with_reducible apply Vq.PR_setObC); (· exact rfl)) | ((with_reducible apply Vq.PR_resRef); (· intro _ _ _ _ _ e; cases e); (try dsimp only)) | ((with_reducible apply Vq.PR_set1X); (· first | (apply Vq.PR_ahO; (· exact rfl); (· exact rfl)) | (apply Vq.PR_ahS; (· exact rfl); (· exact rfl)))) | ((with_reducible apply Vq.PR_set1F); (· first | (apply Vq.PR_ahO; (· exact rfl); (· exact rfl)) | (apply Vq.PR_ahS; (· exact rfl); (· exact rfl)))) | ((with_reducible apply Vq.PR_set2I); (· first | (apply Vq.PR_ahO; (· exact rfl); (· exact rfl)) | (apply Vq.PR_ahS; (· exact rfl); (· exact rfl)))) | ((with_reducible apply Vq.PR_set2X); (· first | (apply Vq.PR_ahO; (· exact rfl); (· exact rfl)) | (apply Vq.PR_ahS; (· exact rfl); (· exact rfl))); (· decide)) | ((with_reducible apply Vq.PR_set2F); (· first | (apply Vq.PR_ahO; (· exact rfl); (· exact rfl)) | (apply Vq.PR_ahS; (· exact rfl); (· exact rfl))); (· decide)) | ((with_reducible apply Vq.PR_ifN); (· exact rfl)) | (simp only [z1, z2, z3, z4, z5, z6, z7, z8, z9, z10, z11, z12, z13, z14, z15, z16, z17, z18, List.length_map, V.withLeaves, V.borrow, zero1, freeze1, borrows, borrow1, V.leaves, V.nextg, Nat.reduceAdd, Nat.reduceSub, layTup, obj1, splice, Bool.false_eq_true, if_true, if_false, Bool.not_true, Bool.not_false, Vq.take_mapl, Int.toNat_natCast, Int.toNat_zero, Nat.add_zero, Nat.sub_zero, Nat.zero_add, Int.reduceToNat, Vq.binV_shr, Vq.binV_shl, Int.natCast_nonneg, Vq.flat_by, Vq.byN_take, Vq.byN_len, Vq.here_by, Vq.here_int, Vq.here_bool, Vq.here_str, Vq.here_isl, Vq.here_xsl, Vq.here_nil, Vq.obj1_by, Vq.freeze1_by, Vq.inObj_by, Vq.inElem_by, Vq.plain_by, Vq.V.cells, Vq.here_intL, Vq.here_boolL, Vq.here_strL, Vq.here_islL, Vq.here_xslL, Vq.here_fslL, Vq.here_ptrL, Vq.here_nilP, Vq.V.inElem, Vq.V.inObj, List.length_append, List.length_replicate, List.length_set, List.drop_replicate, List.replicate_zero, List.append_nil, List.take_length, Nat.reduceSub, List.map_cons, List.map_nil, List.all_cons, List.all_nil, Vq.freeze1, Vq.obj1, Bool.and_true, Bool.true_and, List.flatMap_cons, List.flatMap_nil, List.append_nil, Vq.regens_by0, Vq.regens_bb, Vq.regens_zb, List.take_replicate, Nat.min_self, Nat.zero_min, List.nil_append, Vq.ofCells, Bool.false_eq_true, if_false, Vq.regens_nn, Vq.regens_g0, Vq.regens_0c, Vq.regens_c, Vq.regen1, Vq.V.nextg, Option.bind_some, Option.map_some, if_true, Vq.borrows_by, Vq.byN_app, Vq.V.sz?, Vq.lenOf, Vq.TK.fits, Vq.gThere, Vq.subV, List.map_cons, List.map_nil, List.flatMap_cons, List.flatMap_nil, ge_iff_le, gt_iff_lt, Vq.byN_len, Vq.byN_takeL, beq_self_eq_true, bne_self_eq_false, s, u, if_true, if_false, eq_self, Nat.reduceEqDiff]) | (apply Vq.PR_ifT; (· exact rfl)) | (apply Vq.PR_ifF; (· exact rfl)) | (apply Vq.PR_if) | (simp only [z1, z2, z3, z4, z5, z6, z7, z8, z9, z10, z11, z12, z13, z14, z15, z16, z17, z18, List.length_map, V.withLeaves, V.borrow, zero1, freeze1, borrows, borrow1, V.leaves, V.nextg, Nat.reduceAdd, Nat.reduceSub, layTup, obj1, splice, Bool.false_eq_true, if_true, if_false, Bool.not_true, Bool.not_false, Vq.take_mapl, Int.toNat_natCast, Int.toNat_zero, Nat.add_zero, Nat.sub_zero, Nat.zero_add, Int.reduceToNat, Vq.binV_shr, Vq.binV_shl, Int.natCast_nonneg, Vq.flat_by, Vq.byN_take, Vq.byN_len, Vq.here_by, Vq.here_int, Vq.here_bool, Vq.here_str, Vq.here_isl, Vq.here_xsl, Vq.here_nil, Vq.obj1_by, Vq.freeze1_by, Vq.inObj_by, Vq.inElem_by, Vq.plain_by, Vq.V.cells, Vq.here_intL, Vq.here_boolL, Vq.here_strL, Vq.here_islL, Vq.here_xslL, Vq.here_fslL, Vq.here_ptrL, Vq.here_nilP, Vq.V.inElem, Vq.V.inObj, List.length_append, List.length_replicate, List.length_set, List.drop_replicate, List.replicate_zero, List.append_nil, List.take_length, Nat.reduceSub, List.map_cons, List.map_nil, List.all_cons, List.all_nil, Vq.freeze1, Vq.obj1, Bool.and_true, Bool.true_and, List.flatMap_cons, List.flatMap_nil, List.append_nil, Vq.regens_by0, Vq.regens_bb, Vq.regens_zb, List.take_replicate, Nat.min_self, Nat.zero_min, List.nil_append, Vq.ofCells, Bool.false_eq_true, if_false, Vq.regens_nn, Vq.regens_g0, Vq.regens_0c, Vq.regens_c, Vq.regen1, Vq.V.nextg, Option.bind_some, Option.map_some, if_true, Vq.borrows_by, Vq.byN_app, Vq.V.sz?, Vq.lenOf, Vq.TK.fits, Vq.gThere, Vq.subV, List.map_cons, List.map_nil, List.flatMap_cons, List.flatMap_nil, ge_iff_le, gt_iff_lt, Vq.byN_len, Vq.byN_takeL, beq_self_eq_true, bne_self_eq_false, s, u]))) | ((with_reducible apply Vq.gWO); (first | (with_reducible apply Vq.WO_nil) | ((with_reducible first | apply Vq.gWOs | apply Vq.gWOo); simp only [z1, z2, z3, z4, z5, z6, z7, z8, z9, z10, z11, z12, z13, z14, z15, z16, z17, z18, List.length_map, V.withLeaves, V.borrow, zero1, freeze1, borrows, borrow1, V.leaves, V.nextg, Nat.reduceAdd, Nat.reduceSub, layTup, obj1, splice, Bool.false_eq_true, if_true, if_false, Bool.not_true, Bool.not_false, Vq.take_mapl, Int.toNat_natCast, Int.toNat_zero, Nat.add_zero, Nat.sub_zero, Nat.zero_add, Int.reduceToNat, ge_iff_le, gt_iff_lt, Vq.byN_len, Vq.byN_takeL, beq_self_eq_true, bne_self_eq_false, s]) | ((with_reducible apply Vq.WO_cons); (· first | exact rfl | ((try apply S6.vguard rfl); (first | apply S11.vshrT rfl rfl (Int.natCast_nonneg _) | apply S11.vshlT rfl rfl (Int.natCast_nonneg _) | apply S11.vshlV rfl (Int.natCast_nonneg _)); exact rfl)); (try simp only [z1, z2, z3, z4, z5, z6, z7, z8, z9, z10, z11, z12, z13, z14, z15, z16, z17, z18, List.length_map, V.withLeaves, V.borrow, zero1, freeze1, borrows, borrow1, V.leaves, V.nextg, Nat.reduceAdd, Nat.reduceSub, layTup, obj1, splice, Bool.false_eq_true, if_true, if_false, Bool.not_true, Bool.not_false, Vq.take_mapl, Int.toNat_natCast, Int.toNat_zero, Nat.add_zero, Nat.sub_zero, Nat.zero_add, Int.reduceToNat, ge_iff_le, gt_iff_lt, Vq.byN_len, Vq.byN_takeL, beq_self_eq_true, bne_self_eq_false, s])) | (with_reducible apply Vq.PO_cons))) | ((with_reducible apply Vq.gWD); (first | ((with_reducible first | apply Vq.gWDs | apply Vq.gWDo); simp only [z1, z2, z3, z4, z5, z6, z7, z8, z9, z10, z11, z12, z13, z14, z15, z16, z17, z18, List.length_map, V.withLeaves, V.borrow, zero1, freeze1, borrows, borrow1, V.leaves, V.nextg, Nat.reduceAdd, Nat.reduceSub, layTup, obj1, splice, Bool.false_eq_true, if_true, if_false, Bool.not_true, Bool.not_false, Vq.take_mapl, Int.toNat_natCast, Int.toNat_zero, Nat.add_zero, Nat.sub_zero, Nat.zero_add, Int.reduceToNat, ge_iff_le, gt_iff_lt, Vq.byN_len, Vq.byN_takeL, beq_self_eq_true, bne_self_eq_false, s]) | (with_reducible first | apply Vq.PD_cons | apply Vq.WD_nil))) | ((with_reducible first | apply Vq.gQs | apply Vq.gQb); (first | (with_reducible first | apply Vq.Qs_n | apply Vq.Qs_r | apply Vq.Qs_e | apply Vq.Qb_n0 | apply Vq.Qb_x0 | apply Vq.Qb_r) | ((with_reducible apply Vq.Qb_ne); (· decide)))) | ((with_reducible apply Vq.gW); (first | (with_reducible first | apply Vq.W_seq | apply Vq.W_region | apply Vq.W_skip | apply Vq.W_ret | apply Vq.W_exit | apply Vq.W_block | apply Vq.W_draw) | ((with_reducible apply Vq.W_condT); (· exact rfl)) | ((with_reducible apply Vq.W_condF); (· exact rfl)) | ((first | ((with_reducible apply Vq.W_condD); (· exact rfl)) | ((with_reducible apply Vq.W_cond); (· exact rfl))); all_goals (intro hq; (try simp only [hq]))))) | ((with_reducible apply Vq.gLim); (first | assumption)) | ((with_reducible apply Vq.gThG); simp only [List.flatMap_cons, List.flatMap_nil, Vq.gTheres_app, Vq.V.leaves, Vq.gTheres, Vq.gThere1, Vq.gThere, Vq.gTheres_by]; done) | (exact fun _ => rfl) | (apply Vq.PA_nil) | ((with_reducible apply Vq.PA_P); (· exact rfl); (· exact rfl); (· repeat (first | (apply Vq.P0_nil) | (apply Vq.P0_c; (· exact fun _ => rfl)))); (· exact rfl)) | ((with_reducible apply Vq.PA_A); (· exact rfl); (· exact rfl)) | (exact Vq.flat_by _) | ((with_reducible apply Vq.PA_S); (· exact rfl); (· first | (apply Vq.PR_aelO; (· exact rfl); (· exact rfl); (· exact rfl)) | (apply Vq.PR_aelS; (· exact rfl); (· exact rfl); (· exact rfl)))) | ((with_reducible apply Vq.PA_T); (· exact rfl); (· intro _ e; cases e); (· (first | (exact fun _ => rfl) | (exact Vq.press_by _)))) | ((with_reducible apply Vq.PA_G); (· exact rfl); (· intro _ e; cases e); (· repeat (first | (apply Vq.PS_nil) | (apply Vq.PS_s; (· first | (apply Vq.PR_aelO; (· exact rfl); (· exact rfl); (· exact rfl)) | (apply Vq.PR_aelS; (· exact rfl); (· exact rfl); (· exact rfl))); (· (first | (simp only [Vq.byN_len, List.length_map]; done) | (simp only [Vq.byN_len, List.length_map]; omega) | (simp; done) | (simp; omega))); (· (first | exact rfl | (simp; done)))) | (apply Vq.PS_c; (· exact fun _ => rfl))))) | ((with_reducible apply Vq.PA_V); (· intro _ e; cases e)) | exact Vq.press_by _ | (with_reducible first | exact Vq.settle_by _ _ _ | exact Vq.keeps_by _ _ _ | exact fun _ => rfl) | (intro k; simp only [Vq.settle, Vq.settle1, Vq.settle_by, Vq.keeps, Vq.keep1, Vq.keeps_by]; first | done | exact rfl) | ((with_reducible first | apply Vq.gRens | apply Vq.gRen | apply Vq.gMapM); (first | (simp only [Vq.rens_by, Vq.rens_c, Vq.rens_n, Vq.ren_int, Vq.ren_bool, Vq.ren_str, Vq.ren_isl, Vq.ren_xsl, Vq.ren_fsl, Vq.ren_nilS, Vq.ren_nil, Vq.ren_iptr, Vq.ren_agg, Vq.ren_tup, Vq.ren_func, Vq.zero1_by, Vq.objRen_e, Vq.mapM_c, Vq.mapM_n, Vq.ren_ptr, Vq.gTheres_by, Vq.gTh_agg, Vq.flatMap_nil', z1, z2, z3, z4, z5, z6, z7, z8, z9, z10, z11, z12, z13, z14, z15, z16, z17, z18, List.length_map, V.withLeaves, V.borrow, zero1, freeze1, borrows, borrow1, V.leaves, V.nextg, Nat.reduceAdd, Nat.reduceSub, layTup, obj1, splice, Bool.false_eq_true, if_true, if_false, Bool.not_true, Bool.not_false, Vq.take_mapl, Int.toNat_natCast, Int.toNat_zero, Nat.add_zero, Nat.sub_zero, Nat.zero_add, Int.reduceToNat, Option.bind_some, Option.map_some, List.map_cons, List.map_nil, ge_iff_le, gt_iff_lt, Vq.byN_len, Vq.byN_takeL, beq_self_eq_true, bne_self_eq_false, s, u]; first | done | exact rfl) | exact rfl)) | ((with_reducible first | apply Vq.gSome | apply Vq.gTrue | apply Vq.gFalse); (first | exact regens_g0 _ | exact rfl | assumption | (simp only [List.flatMap_cons, List.flatMap_nil, List.append_nil, Vq.regens_by0, Vq.regens_bb, Vq.regens_zb, List.take_replicate, Nat.min_self, Nat.zero_min, List.nil_append, Vq.ofCells, Bool.false_eq_true, if_false, Vq.regens_nn, Vq.regens_g0, Vq.regens_0c, Vq.regens_c, Vq.regen1, Vq.V.nextg, Option.bind_some, Option.map_some, if_true, Vq.binV_shr, Vq.binV_shl, Int.natCast_nonneg, Vq.flat_by, Vq.byN_take, Vq.byN_len, Vq.here_by, Vq.here_int, Vq.here_bool, Vq.here_str, Vq.here_isl, Vq.here_xsl, Vq.here_nil, Vq.obj1_by, Vq.freeze1_by, Vq.inObj_by, Vq.inElem_by, Vq.plain_by, Vq.V.cells, Vq.here_intL, Vq.here_boolL, Vq.here_strL, Vq.here_islL, Vq.here_xslL, Vq.here_fslL, Vq.here_ptrL, Vq.here_nilP, Vq.V.inElem, Vq.V.inObj, List.length_append, List.length_replicate, List.length_set, List.drop_replicate, List.replicate_zero, List.append_nil, List.take_length, Nat.reduceSub, List.map_cons, List.map_nil, List.all_cons, List.all_nil, Vq.freeze1, Vq.obj1, Bool.and_true, Bool.true_and, Vq.hasX_by, Vq.hasX_int, Vq.hasX_bool, Vq.hasX_str, Vq.hasX_isl, Vq.hasX_nil, ge_iff_le, gt_iff_lt, Vq.byN_len, Vq.byN_takeL, beq_self_eq_true, bne_self_eq_false, s, u]; (first | done | exact rfl)))) | (first | (simp only [z1, z2, z3, z4, z5, z6, z7, z8, z9, z10, z11, z12, z13, z14, z15, z16, z17, z18, List.length_map, V.withLeaves, V.borrow, zero1, freeze1, borrows, borrow1, V.leaves, V.nextg, Nat.reduceAdd, Nat.reduceSub, layTup, obj1, splice, Bool.false_eq_true, if_true, if_false, Bool.not_true, Bool.not_false, Vq.take_mapl, Int.toNat_natCast, Int.toNat_zero, Nat.add_zero, Nat.sub_zero, Nat.zero_add, Int.reduceToNat, Vq.binV_shr, Vq.binV_shl, Int.natCast_nonneg, Vq.flat_by, Vq.byN_take, Vq.byN_len, Vq.here_by, Vq.here_int, Vq.here_bool, Vq.here_str, Vq.here_isl, Vq.here_xsl, Vq.here_nil, Vq.obj1_by, Vq.freeze1_by, Vq.inObj_by, Vq.inElem_by, Vq.plain_by, Vq.V.cells, Vq.here_intL, Vq.here_boolL, Vq.here_strL, Vq.here_islL, Vq.here_xslL, Vq.here_fslL, Vq.here_ptrL, Vq.here_nilP, Vq.V.inElem, Vq.V.inObj, List.length_append, List.length_replicate, List.length_set, List.drop_replicate, List.replicate_zero, List.append_nil, List.take_length, Nat.reduceSub, List.map_cons, List.map_nil, List.all_cons, List.all_nil, Vq.freeze1, Vq.obj1, Bool.and_true, Bool.true_and, List.flatMap_cons, List.flatMap_nil, List.append_nil, Vq.regens_by0, Vq.regens_bb, Vq.regens_zb, List.take_replicate, Nat.min_self, Nat.zero_min, List.nil_append, Vq.ofCells, Bool.false_eq_true, if_false, Vq.regens_nn, Vq.regens_g0, Vq.regens_0c, Vq.regens_c, Vq.regen1, Vq.V.nextg, Option.bind_some, Option.map_some, if_true, Vq.borrows_by, Vq.byN_app, Vq.V.sz?, Vq.lenOf, Vq.TK.fits, Vq.gThere, Vq.subV, List.map_cons, List.map_nil, List.flatMap_cons, List.flatMap_nil, ge_iff_le, gt_iff_lt, Vq.byN_len, Vq.byN_takeL, beq_self_eq_true, bne_self_eq_false, s, u]; (try (first | done | exact rfl))) | exact rfl | (simp only [Vq.rens_by, Vq.rens_c, Vq.rens_n, Vq.ren_int, Vq.ren_bool, Vq.ren_str, Vq.ren_isl, Vq.ren_xsl, Vq.ren_fsl, Vq.ren_nilS, Vq.ren_nil, Vq.ren_iptr, Vq.ren_agg, Vq.ren_tup, Vq.ren_func, Vq.zero1_by, Vq.objRen_e, Vq.mapM_c, Vq.mapM_n, Vq.ren_ptr, Vq.gTheres_by, Vq.gTh_agg, Vq.flatMap_nil', Vq.idsIn_by, Vq.idsIn_c, Vq.idsIn_n, Vq.ids_agg, Vq.ids_ptr, Vq.ids_int, Vq.ids_bool, Vq.ids_str, Vq.ids_isl, Vq.ids_xsl, Vq.ids_fsl, Vq.ids_nilS, List.nil_append, List.cons_append, List.append_nil]; done) | omega | decide | (simp [Vq.binV_shr, Vq.binV_shl, Int.natCast_nonneg, Vq.flat_by, Vq.byN_take, Vq.byN_len, Vq.here_by, Vq.here_int, Vq.here_bool, Vq.here_str, Vq.here_isl, Vq.here_xsl, Vq.here_nil, Vq.obj1_by, Vq.freeze1_by, Vq.inObj_by, Vq.inElem_by, Vq.plain_by, Vq.V.cells, Vq.here_intL, Vq.here_boolL, Vq.here_strL, Vq.here_islL, Vq.here_xslL, Vq.here_fslL, Vq.here_ptrL, Vq.here_nilP, Vq.V.inElem, Vq.V.inObj, List.length_append, List.length_replicate, List.length_set, List.drop_replicate, List.replicate_zero, List.append_nil, List.take_length, Nat.reduceSub, List.map_cons, List.map_nil, List.all_cons, List.all_nil, Vq.freeze1, Vq.obj1, Bool.and_true, Bool.true_and, ge_iff_le, gt_iff_lt, Vq.byN_len, Vq.byN_takeL, beq_self_eq_true, bne_self_eq_false, s, u]; (first | done | omega)) | (first | (simp; done) | (simp; omega))))); (all_goals (first | exact hQ.h | (refine Vq.Qe_r ?_; (first | kernel_rfl | exact rfl)) | (refine Vq.Qe_n ?_; (first | kernel_rfl | exact rfl)))))) : p := h s u ⟨hq⟩
end Go.Vq
namespace Go.Vq
end Go.Vq
namespace Go.Vq
end Go.Vq
namespace Go.Vq
end Go.Vq
namespace Go.Vq
end Go.Vq
namespace Go.Vq
end Go.Vq
namespace Go.Vq
end Go.Vq
namespace Go.Vq
theorem bytes_nat (bs : List Int) (h : ∀ b ∈ bs, (Lit.int .u8 b).wf = true) : ∃ l : List Nat, bs.map (V.int .u8) = byN l ∧ ∀ x ∈ l, x < 256 := by
  have hr : ∀ b ∈ bs, 0 ≤ b ∧ b < 256 := fun b hb => by
    have := h b hb
    simp [Lit.wf, IntKind.min, IntKind.max, IntKind.signed, IntKind.bits] at this
    omega
  refine ⟨bs.map Int.toNat, ?_, fun x hx => ?_⟩
  · simp only [byN, List.map_map]
    refine List.map_congr_left fun b hb => ?_
    have := hr b hb
    simp only [Function.comp]
    congr 1
    omega
  · obtain ⟨b, hb, rfl⟩ := List.mem_map.1 hx
    have := hr b hb
    omega
end Go.Vq
namespace Go.Vq
namespace P1
open Go
set_option maxRecDepth 1000000
theorem wrapi64 (n : Int) (h1 : -9223372036854775808 ≤ n) (h2 : n < 9223372036854775808) : IntKind.i64.wrap n = n := by
  simp only [IntKind.wrap, IntKind.bits, IntKind.signed]; simp; omega
theorem inc64 (i : Nat) (h : i < 4611686018427387904) : IntKind.i64.wrap ((i : Int) + 1) = ((i + 1 : Nat) : Int) := by
  rw [wrapi64 _ (by omega) (by omega)]; rfl
theorem cf {c : List Nat} (h : c.length = 64) : c.length = 64 ∧ List.take 64 (byN c) = byN c ∧ List.drop 64 (byN c) = [] ∧ (∀ r, List.take 64 (byN c ++ r) = byN c) ∧ (∀ r, List.drop 64 (byN c ++ r) = r) :=
  ⟨h, take_by h, drop_by h, take_byA h, drop_byA h⟩
end P1
end Go.Vq
namespace Go.Vq
namespace P1
open Go
set_option maxRecDepth 1000000
set_option maxHeartbeats 4000000
abbrev b15 : VCode := .seq (.region [⟨some 2, .assign (.val .nil), none, 0⟩] false) (.seq (.region [⟨some 3, .move (.tmp 0), none, 0⟩, ⟨some 4, .min [(.tmp 3), (.val (.int .i64 4096))], none, 1⟩, ⟨some 5, .max [(.val (.int .i64 0)), (.tmp 4)], none, 3⟩, ⟨some 6, .makeSlice 64 64 (.agg (Z8 64)) (.tmp 5) (.tmp 5), none, 7⟩, ⟨some 7, .build [(.nilS 64), (.nilS 65), (.bool false), (.int .i64 0)] [(0, 1, (.tmp 6)), (3, 1, (.val (.int .i64 (-1))))], none, 15⟩, ⟨some 8, .box 0 4 (.tmp 7), none, 31⟩, ⟨some 2, .assign (.tmp 8), none, 63⟩] false) (.ret))
abbrev v15 : VFunc := { nparams := 1, ntmps := 9, nsites := 1, results := [.tmp 2], body := b15 }
abbrev b16 : VCode := .seq (.region [⟨some 5, .box 0 64 (.tmp 2), none, 0⟩, ⟨some 6, .assign (.val (.int .i64 0)), none, 0⟩] false) (.seq (.seq (.region [⟨some 8, .move (.tmp 0), none, 0⟩, ⟨some 9, .move (.tmp 1), none, 0⟩, ⟨some 10, .call false 45 1 [(.tmp 8), (.tmp 9)], none, 3⟩, ⟨some 11, .un (.not) (.tmp 10), none, 7⟩] false) (.cond (.tmp 11) (.seq (.region [⟨some 6, .assign (.val (.int .i64 71)), none, 0⟩] false) (.ret)) (.skip))) (.seq (.seq (.region [⟨some 12, .move (.tmp 0), none, 0⟩, ⟨some 13, .call false 46 1 [(.tmp 12)], none, 1⟩, ⟨some 7, .assign (.tmp 13), none, 3⟩] false) (.seq (.region [⟨some 14, .move (.tmp 7), none, 0⟩, ⟨some 15, .eq true (.num) (.tmp 14) (.val (.int .i64 0)), none, 1⟩] false) (.cond (.tmp 15) (.seq (.region [⟨some 16, .move (.tmp 7), none, 0⟩, ⟨some 6, .assign (.tmp 16), none, 1⟩] false) (.ret)) (.skip)))) (.seq (.region [⟨some 17, .move (.tmp 0), none, 0⟩, ⟨some 18, .move (.tmp 0), none, 0⟩, ⟨some 19, .nilCheck (.tmp 18), none, 2⟩, ⟨some 20, .fieldAddr 1 (.tmp 19), none, 6⟩, ⟨some 21, .load false 1 (.tmp 20), none, 14⟩, ⟨some 22, .move (.tmp 1), none, 0⟩, ⟨some 23, .load true 64 (.tmp 5), none, 0⟩, ⟨some 24, .build ([(.int .i64 0)] ++ Z8 64) [(0, 1, (.tmp 22)), (1, 64, (.tmp 23))], none, 96⟩, ⟨some 25, .buildSlice 65 [(.agg ([(.int .i64 0)] ++ Z8 64))] [(0, (.tmp 24))], none, 224⟩, ⟨some 26, .append 65 72 (.tmp 21) (.tmp 25), none, 510⟩, ⟨some 27, .nilCheck (.tmp 17), none, 1023⟩, ⟨some 28, .fieldAddr 1 (.tmp 27), none, 2047⟩, ⟨none, .store 1 (.tmp 28) (.tmp 26), none, 4095⟩] true) (.seq (.region [⟨some 6, .assign (.val (.int .i64 0)), none, 0⟩] false) (.ret)))))
abbrev v16 : VFunc := { nparams := 3, ntmps := 29, nsites := 1, results := [.tmp 6], body := b16 }
abbrev b18 : VCode := .seq (.region [⟨some 2, .assign (.val (.int .i64 0)), none, 0⟩] false) (.seq (.seq (.region [⟨some 6, .move (.tmp 0), none, 0⟩, ⟨some 7, .call false 46 0 [(.tmp 6)], none, 1⟩, ⟨some 3, .assign (.tmp 7), none, 3⟩] false) (.seq (.region [⟨some 8, .move (.tmp 3), none, 0⟩, ⟨some 9, .eq true (.num) (.tmp 8) (.val (.int .i64 0)), none, 1⟩] false) (.cond (.tmp 9) (.seq (.region [⟨some 10, .move (.tmp 3), none, 0⟩, ⟨some 2, .assign (.tmp 10), none, 1⟩] false) (.ret)) (.skip)))) (.seq (.seq (.region [⟨some 11, .move (.tmp 0), none, 0⟩, ⟨some 12, .nilCheck (.tmp 11), none, 1⟩, ⟨some 13, .fieldAddr 1 (.tmp 12), none, 3⟩, ⟨some 14, .load false 1 (.tmp 13), none, 7⟩, ⟨some 15, .len (.slc 65) (.tmp 14), none, 15⟩, ⟨some 16, .move (.val (.int .i64 0)), none, 0⟩] false) (.block 0 (some [0]) (.loop (some [0, 11, 12, 13, 14, 15, 16]) (.seq (.region [⟨some 17, .bin (.lss) (.tmp 16) (.tmp 15), none, 0⟩] false) (.seq (.cond (.tmp 17) (.skip) (.exit 0)) (.seq (.block 1 none (.seq (.region [⟨some 18, .indexAddr none 65 (.tmp 14) (.tmp 16), none, 0⟩, ⟨some 19, .load true 65 (.tmp 18), none, 1⟩, ⟨some 5, .alloc 0 ([(.int .i64 0)] ++ Z8 64), none, 0⟩, ⟨none, .store 65 (.tmp 5) (.tmp 19), none, 7⟩] false) (.region [⟨some 20, .move (.tmp 0), none, 0⟩, ⟨some 21, .nilCheck (.tmp 20), none, 1⟩, ⟨some 22, .fieldAddr 0 (.tmp 21), none, 3⟩, ⟨some 23, .load false 1 (.tmp 22), none, 7⟩, ⟨some 24, .fieldAddr 0 (.tmp 5), none, 0⟩, ⟨some 25, .load false 1 (.tmp 24), none, 16⟩, ⟨some 26, .fieldAddr 1 (.tmp 5), none, 0⟩, ⟨some 27, .load true 64 (.tmp 26), none, 64⟩, ⟨some 28, .indexAddr none 64 (.tmp 23) (.tmp 25), none, 255⟩, ⟨none, .store 64 (.tmp 28) (.tmp 27), none, 511⟩] true))) (.region [⟨some 29, .bin (.add) (.tmp 16) (.val (.int .i64 1)), none, 0⟩, ⟨some 16, .move (.tmp 29), none, 1⟩] false))))))) (.seq (.region [⟨some 30, .move (.tmp 0), none, 0⟩, ⟨some 31, .nilCheck (.tmp 30), none, 1⟩, ⟨some 32, .fieldAddr 1 (.tmp 31), none, 3⟩, ⟨none, .store 1 (.tmp 32) (.val (.nilS 65)), none, 7⟩] false) (.seq (.region [⟨some 2, .assign (.val (.int .i64 0)), none, 0⟩] false) (.ret)))))
abbrev v18 : VFunc := { nparams := 1, ntmps := 33, nsites := 1, results := [.tmp 2], body := b18 }
abbrev b20 : VCode := .seq (.region [⟨some 3, .box 0 1 (.tmp 1), none, 0⟩, ⟨some 4, .alloc 1 (Z8 64), none, 0⟩, ⟨some 5, .alloc 2 [(.int .i64 0)], none, 0⟩] false) (.seq (.seq (.region [⟨some 8, .move (.tmp 0), none, 0⟩, ⟨some 9, .load false 1 (.tmp 3), none, 0⟩, ⟨some 10, .call false 45 3 [(.tmp 8), (.tmp 9)], none, 3⟩, ⟨some 11, .un (.not) (.tmp 10), none, 7⟩] false) (.cond (.tmp 11) (.seq (.region [⟨some 12, .build (Z8 64) [], none, 0⟩, ⟨none, .store 64 (.tmp 4) (.tmp 12), none, 1⟩, ⟨none, .store 1 (.tmp 5) (.val (.int .i64 71)), none, 3⟩] false) (.ret)) (.skip))) (.seq (.seq (.region [⟨some 13, .move (.tmp 0), none, 0⟩, ⟨some 14, .nilCheck (.tmp 13), none, 1⟩, ⟨some 15, .fieldAddr 1 (.tmp 14), none, 3⟩, ⟨some 16, .load false 1 (.tmp 15), none, 7⟩, ⟨some 17, .call false 47 3 [(.tmp 16)], none, 15⟩] false) (.block 0 (some [0, 3, 4, 5]) (.range (.tmp 17) [18, 19] 7 (some [0, 3, 4, 5]) (.region [⟨some 7, .alloc 0 ([(.int .i64 0)] ++ Z8 64), none, 0⟩, ⟨none, .store 65 (.tmp 7) (.tmp 19), none, 1⟩] false) (.block 1 none (.seq (.region [⟨some 20, .fieldAddr 0 (.tmp 7), none, 0⟩, ⟨some 21, .load false 1 (.tmp 20), none, 1⟩, ⟨some 22, .load false 1 (.tmp 3), none, 0⟩, ⟨some 23, .eq false (.num) (.tmp 21) (.tmp 22), none, 7⟩] false) (.cond (.tmp 23) (.seq (.region [⟨some 24, .fieldAddr 1 (.tmp 7), none, 0⟩, ⟨some 25, .load true 64 (.tmp 24), none, 1⟩, ⟨none, .store 64 (.tmp 4) (.tmp 25), none, 3⟩, ⟨none, .store 1 (.tmp 5) (.val (.int .i64 0)), none, 7⟩] false) (.ret)) (.skip))))))) (.seq (.region [⟨some 26, .move (.tmp 0), none, 0⟩, ⟨some 27, .nilCheck (.tmp 26), none, 1⟩, ⟨some 28, .fieldAddr 0 (.tmp 27), none, 3⟩, ⟨some 29, .load false 1 (.tmp 28), none, 7⟩, ⟨some 30, .load false 1 (.tmp 3), none, 0⟩, ⟨some 31, .indexAddr none 64 (.tmp 29) (.tmp 30), none, 31⟩, ⟨some 32, .load true 64 (.tmp 31), none, 63⟩, ⟨none, .store 64 (.tmp 4) (.tmp 32), none, 127⟩, ⟨none, .store 1 (.tmp 5) (.val (.int .i64 0)), none, 255⟩] true) (.ret))))
abbrev v20 : VFunc := { nparams := 2, ntmps := 33, nsites := 8, results := [.cell 4 true 64, .cell 5 false 1], body := b20 }
abbrev b21 : VCode := .seq (.seq (.region [⟨some 11, .move (.tmp 0), none, 0⟩, ⟨some 12, .nilCheck (.tmp 11), none, 1⟩, ⟨some 13, .fieldAddr 1 (.tmp 12), none, 3⟩, ⟨some 14, .load false 1 (.tmp 13), none, 7⟩, ⟨some 15, .len (.slc 65) (.tmp 14), none, 15⟩, ⟨some 16, .move (.val (.int .i64 0)), none, 0⟩] false) (.block 0 (some [0]) (.loop (some [0, 1, 2, 3, 11, 12, 13, 14, 15, 16]) (.seq (.region [⟨some 17, .bin (.lss) (.tmp 16) (.tmp 15), none, 0⟩] false) (.seq (.cond (.tmp 17) (.skip) (.exit 0)) (.seq (.block 1 none (.seq (.region [⟨some 18, .move (.tmp 16), none, 0⟩, ⟨some 19, .indexAddr none 65 (.tmp 14) (.tmp 16), none, 0⟩, ⟨some 20, .load true 65 (.tmp 19), none, 2⟩, ⟨some 9, .alloc 0 ([(.int .i64 0)] ++ Z8 64), none, 0⟩, ⟨some 8, .assign (.tmp 18), none, 15⟩, ⟨none, .store 65 (.tmp 9) (.tmp 20), none, 31⟩] false) (.seq (.region [⟨some 10, .assign (.val (.int .i64 0)), none, 0⟩] false) (.seq (.seq (.region [⟨some 21, .move (.tmp 8), none, 0⟩, ⟨some 22, .bin (.quo) (.tmp 21) (.val (.int .i64 8)), none, 1⟩, ⟨some 23, .move (.tmp 1), none, 0⟩, ⟨some 24, .len (.slc 1) (.tmp 23), none, 4⟩, ⟨some 25, .bin (.lss) (.tmp 22) (.tmp 24), none, 15⟩, ⟨some 26, .move (.tmp 25), none, 31⟩, ⟨some 27, .move (.tmp 1), some (26, true), 63⟩, ⟨some 28, .move (.tmp 8), some (26, true), 63⟩, ⟨some 29, .bin (.quo) (.tmp 28) (.val (.int .i64 8)), some (26, true), 191⟩, ⟨some 30, .indexAddr none 1 (.tmp 27) (.tmp 29), some (26, true), 511⟩, ⟨some 31, .load false 1 (.tmp 30), some (26, true), 1023⟩, ⟨some 32, .move (.tmp 8), some (26, true), 63⟩, ⟨some 33, .bin (.rem) (.tmp 32) (.val (.int .i64 8)), some (26, true), 2111⟩, ⟨some 34, .bin (.shr) (.tmp 31) (.tmp 33), some (26, true), 8191⟩, ⟨some 35, .bin (.and) (.tmp 34) (.val (.int .u8 1)), some (26, true), 16383⟩, ⟨some 36, .eq false (.num) (.tmp 35) (.val (.int .u8 1)), some (26, true), 32767⟩, ⟨some 37, .pick (.tmp 26) (.tmp 36) (.val (.bool false)), none, 65535⟩] false) (.cond (.tmp 37) (.region [⟨some 10, .assign (.val (.int .i64 64)), none, 0⟩] false) (.skip))) (.seq (.seq (.region [⟨some 38, .move (.tmp 8), none, 0⟩, ⟨some 39, .move (.tmp 2), none, 0⟩, ⟨some 40, .eq false (.num) (.tmp 38) (.tmp 39), none, 3⟩] false) (.cond (.tmp 40) (.region [⟨some 41, .move (.tmp 3), none, 0⟩, ⟨some 42, .min [(.tmp 41), (.val (.int .i64 64))], none, 1⟩, ⟨some 43, .max [(.val (.int .i64 0)), (.tmp 42)], none, 3⟩, ⟨some 10, .assign (.tmp 43), none, 7⟩] false) (.skip))) (.region [⟨some 44, .move (.tmp 0), none, 0⟩, ⟨some 45, .nilCheck (.tmp 44), none, 1⟩, ⟨some 46, .fieldAddr 0 (.tmp 45), none, 3⟩, ⟨some 47, .load false 1 (.tmp 46), none, 7⟩, ⟨some 48, .fieldAddr 0 (.tmp 9), none, 0⟩, ⟨some 49, .load false 1 (.tmp 48), none, 16⟩, ⟨some 50, .indexAddr none 64 (.tmp 47) (.tmp 49), none, 63⟩, ⟨some 51, .move (.tmp 10), none, 0⟩, ⟨some 52, .slice (.arr 64) (.tmp 50) none (some (.tmp 51)) none, none, 255⟩, ⟨some 53, .fieldAddr 1 (.tmp 9), none, 0⟩, ⟨some 54, .slice (.arr 64) (.tmp 53) none none none, none, 512⟩, ⟨some 55, .copy 1 (.tmp 52) (.tmp 54), none, 2047⟩] true)))))) (.region [⟨some 56, .bin (.add) (.tmp 16) (.val (.int .i64 1)), none, 0⟩, ⟨some 16, .move (.tmp 56), none, 1⟩] false))))))) (.region [⟨some 57, .move (.tmp 0), none, 0⟩, ⟨some 58, .move (.tmp 0), none, 0⟩, ⟨some 59, .move (.tmp 0), none, 0⟩, ⟨some 60, .nilCheck (.tmp 57), none, 1⟩, ⟨some 61, .fieldAddr 1 (.tmp 60), none, 9⟩, ⟨none, .store 1 (.tmp 61) (.val (.nilS 65)), none, 25⟩, ⟨some 62, .nilCheck (.tmp 58), none, 59⟩, ⟨some 63, .fieldAddr 2 (.tmp 62), none, 123⟩, ⟨none, .store 1 (.tmp 63) (.val (.bool false)), none, 251⟩, ⟨some 64, .nilCheck (.tmp 59), none, 511⟩, ⟨some 65, .fieldAddr 3 (.tmp 64), none, 1023⟩, ⟨none, .store 1 (.tmp 65) (.val (.int .i64 (-1))), none, 2047⟩] false)
abbrev v21 : VFunc := { nparams := 4, ntmps := 66, nsites := 1, results := [], body := b21 }
abbrev b45 : VCode := .seq (.region [⟨some 4, .assign (.val (.bool false)), none, 0⟩] false) (.seq (.region [⟨some 5, .move (.tmp 1), none, 0⟩, ⟨some 6, .bin (.geq) (.tmp 5) (.val (.int .i64 0)), none, 1⟩, ⟨some 7, .move (.tmp 6), none, 3⟩, ⟨some 8, .move (.tmp 1), some (7, true), 7⟩, ⟨some 9, .move (.tmp 0), some (7, true), 7⟩, ⟨some 10, .nilCheck (.tmp 9), some (7, true), 23⟩, ⟨some 11, .fieldAddr 0 (.tmp 10), some (7, true), 55⟩, ⟨some 12, .load false 1 (.tmp 11), some (7, true), 119⟩, ⟨some 13, .len (.slc 64) (.tmp 12), some (7, true), 247⟩, ⟨some 14, .bin (.lss) (.tmp 8) (.tmp 13), some (7, true), 511⟩, ⟨some 15, .pick (.tmp 7) (.tmp 14) (.val (.bool false)), none, 1023⟩, ⟨some 4, .assign (.tmp 15), none, 2047⟩] false) (.ret))
abbrev v45 : VFunc := { nparams := 2, ntmps := 16, nsites := 0, results := [.tmp 4], body := b45 }
abbrev b46 : VCode := .seq (.region [⟨some 2, .assign (.val (.int .i64 0)), none, 0⟩] false) (.seq (.region [⟨some 3, .move (.tmp 0), none, 0⟩, ⟨some 4, .move (.tmp 0), none, 0⟩, ⟨some 5, .nilCheck (.tmp 4), none, 2⟩, ⟨some 6, .fieldAddr 2 (.tmp 5), none, 6⟩, ⟨some 7, .load false 1 (.tmp 6), none, 14⟩, ⟨some 8, .move (.tmp 7), none, 30⟩, ⟨some 9, .move (.tmp 0), some (8, false), 62⟩, ⟨some 10, .nilCheck (.tmp 9), some (8, false), 126⟩, ⟨some 11, .fieldAddr 3 (.tmp 10), some (8, false), 254⟩, ⟨some 12, .load false 1 (.tmp 11), some (8, false), 510⟩, ⟨some 13, .eq false (.num) (.tmp 12) (.val (.int .i64 0)), some (8, false), 1022⟩, ⟨some 14, .pick (.tmp 8) (.val (.bool true)) (.tmp 13), none, 2046⟩, ⟨some 15, .nilCheck (.tmp 3), none, 4095⟩, ⟨some 16, .fieldAddr 2 (.tmp 15), none, 8191⟩, ⟨none, .store 1 (.tmp 16) (.tmp 14), none, 16383⟩] false) (.seq (.seq (.region [⟨some 17, .move (.tmp 0), none, 0⟩, ⟨some 18, .nilCheck (.tmp 17), none, 1⟩, ⟨some 19, .fieldAddr 2 (.tmp 18), none, 3⟩, ⟨some 20, .load false 1 (.tmp 19), none, 7⟩] false) (.cond (.tmp 20) (.seq (.region [⟨some 2, .assign (.val (.int .i64 72)), none, 0⟩] false) (.ret)) (.skip))) (.seq (.region [⟨some 21, .move (.tmp 0), none, 0⟩, ⟨some 22, .move (.tmp 0), none, 0⟩, ⟨some 23, .nilCheck (.tmp 22), none, 2⟩, ⟨some 24, .fieldAddr 3 (.tmp 23), none, 6⟩, ⟨some 25, .load false 1 (.tmp 24), none, 14⟩, ⟨some 26, .bin (.sub) (.tmp 25) (.val (.int .i64 1)), none, 30⟩, ⟨some 27, .max [(.tmp 26), (.val (.int .i64 (-1)))], none, 62⟩, ⟨some 28, .nilCheck (.tmp 21), none, 127⟩, ⟨some 29, .fieldAddr 3 (.tmp 28), none, 255⟩, ⟨none, .store 1 (.tmp 29) (.tmp 27), none, 511⟩] false) (.seq (.region [⟨some 2, .assign (.val (.int .i64 0)), none, 0⟩] false) (.ret)))))
abbrev v46 : VFunc := { nparams := 1, ntmps := 30, nsites := 0, results := [.tmp 2], body := b46 }
abbrev b47 : VCode := .seq (.region [⟨some 1, .ibox 0 1 (.tmp 0), none, 0⟩, ⟨some 2, .assign (.val .nilf), none, 0⟩] false) (.seq (.region [⟨some 3, .makeFunc 54 [(.tmp 1)], none, 0⟩, ⟨some 2, .assign (.tmp 3), none, 1⟩] false) (.ret))
abbrev v47 : VFunc := { nparams := 1, ntmps := 4, nsites := 1, results := [.tmp 2], body := b47 }
abbrev cellV (c : List Nat) : V := .agg (byN c)
abbrev writeV (w : Nat × List Nat) : V := .agg (V.int .i64 (w.1 : Int) :: byN w.2)
abbrev looseV (fz : Bool) (ls : List V) : V := match fz with | true => .fsl 0 65 ls | false => .xsl 0 65 ls
abbrev plateO (es : List (List Nat)) (fz : Bool) (ls : List (Nat × List Nat)) (off : Bool) (left : Int) : Obj := .cells [.xsl 0 64 (es.map cellV), looseV fz (ls.map writeV), .bool off, .int .i64 left]
abbrev q0 : V := .ptr (.obj 0 0)
def inR (i : Int) (n : Nat) : Bool := decide (0 ≤ i) && decide (i < n)
def spO (off : Bool) (left : Int) : Bool := off || left == 0
def spL (off : Bool) (left : Int) : Int := if off || left == 0 then left else if -1 > left - 1 then -1 else left - 1
def spE (off : Bool) (left : Int) : Int := if off || left == 0 then 72 else 0
def zero64 : List Nat := List.replicate 64 0
abbrev LR (left : Int) : Prop := -1 ≤ left ∧ left < 9223372036854775808
section
variable (G : VProg)
theorem there (hG : G 45 = some (.code v45)) (i : Int) (es fz ls off left) : lim G 45 [q0, .int .i64 i] [plateO es fz ls off left] = some (.bool (inR i es.length), [plateO es fz ls off left]) := by
  unfold inR
  cases fz <;> cases h : decide (0 ≤ i)
  all_goals exact lim_fun hG (h := runV h trivial trivial)
theorem spend (hG : G 46 = some (.code v46)) (es fz ls off left) (hl : LR left) : lim G 46 [q0] [plateO es fz ls off left] = some (.int .i64 (spE off left), [plateO es fz ls (spO off left) (spL off left)]) := by
  have hw := wrapi64 (left - 1) (by omega) (by omega)
  unfold spE spO spL
  cases fz <;> cases off <;> cases h : left == 0
  all_goals exact lim_fun hG (h := runV (And.intro h hw) trivial trivial)
theorem put (hG : G 16 = some (.code v16))
    (h45 : ∀ i es fz ls off left, lim G 45 [q0, .int .i64 i] [plateO es fz ls off left] = some (.bool (inR i es.length), [plateO es fz ls off left]))
    (h46 : ∀ es fz ls off left, LR left → lim G 46 [q0] [plateO es fz ls off left] = some (.int .i64 (spE off left), [plateO es fz ls (spO off left) (spL off left)]))
    (i : Int) (c : List Nat) (hc : c.length = 64) (es fz ls off left) (hb : (ls.length + 1) * 72 ≤ 140737488355328) (hl : LR left) :
    lim G 16 [q0, .int .i64 i, cellV c] [plateO es fz ls off left] = if inR i es.length then (if spO off left then some (.int .i64 72, [plateO es fz ls true left]) else some (.int .i64 0, [plateO es fz (ls ++ [(i.toNat, c)]) false (spL off left)])) else some (.int .i64 71, [plateO es fz ls off left]) := by
  have ei : inR i es.length = true → (i.toNat : Int) = i := by intro h; simp [inR] at h; omega
  have eL : spO off left = true → spL off left = left := by intro h; unfold spL; unfold spO at h; rw [if_pos h]
  have g1 := h45 i es fz ls off left
  have g2 := h46 es fz ls off left hl
  have tc := take_by hc
  have hE : spE off left = (if spO off left = true then 72 else 0) := rfl
  cases hx : inR i es.length <;> rw [hx] at g1
  · cases fz
    all_goals exact lim_fun hG (h := runV trivial trivial trivial)
  · have ei := ei hx
    cases hs : spO off left <;> rw [hs] at g2 hE <;> rw [hE] at g2
    · have em : (ls.map writeV) ++ [.agg (.int .i64 i :: byN c)] = (ls ++ [(i.toNat, c)]).map writeV := by simp [ei]
      cases fz
      all_goals exact lim_fun hG (h := runV (And.intro hc (And.intro tc em)) trivial trivial)
    · have eL := eL hs
      rw [eL] at g2
      cases fz
      all_goals exact lim_fun hG (h := runV trivial trivial trivial)
theorem back (hG : G 47 = some (.code v47)) (es : List V) : lim G 47 [.isl 0 65 es] [] = some (.func 54 [.iptr [.isl 0 65 es]], []) :=
  lim_fun hG (h := runV trivial trivial trivial)
theorem pnew (hG : G 15 = some (.code v15)) (n : Int) : lim G 15 [.int .i64 n] [] = some (q0, [plateO (List.replicate (max 0 (min n 4096)).toNat zero64) false [] false (-1)]) := by
  have e : (if 0 < (if (4096 : Int) < n then (4096 : Int) else n) then (if (4096 : Int) < n then (4096 : Int) else n) else 0) = max 0 (min n 4096) := by split <;> split <;> omega
  obtain ⟨k, hk⟩ : ∃ k : Nat, max 0 (min n 4096) = (k : Int) := ⟨(max 0 (min n 4096)).toNat, by omega⟩
  have hk2 : k ≤ 4096 := by omega
  have ez : V.agg (Z8 64) = cellV zero64 := by unfold zero64; rw [byN_rep]
  have em : List.replicate k (cellV zero64) = (List.replicate k zero64).map cellV := by rw [List.map_replicate]
  rw [hk, Int.toNat_natCast]
  rw [hk] at e
  exact lim_fun hG (h := runV (And.intro e (And.intro ez em)) trivial trivial)
end
end P1
end Go.Vq
namespace Go.Vq
namespace P1
open Go
set_option maxRecDepth 1000000
set_option maxHeartbeats 4000000
abbrev b19 : VCode := .seq (.region [⟨some 2, .assign (.val (.int .i64 0)), none, 0⟩] false) (.seq (.region [⟨some 3, .move (.tmp 0), none, 0⟩, ⟨some 4, .nilCheck (.tmp 3), none, 1⟩, ⟨some 5, .fieldAddr 1 (.tmp 4), none, 3⟩, ⟨some 6, .load false 1 (.tmp 5), none, 7⟩, ⟨some 7, .len (.slc 65) (.tmp 6), none, 15⟩, ⟨some 2, .assign (.tmp 7), none, 31⟩] false) (.ret))
abbrev v19 : VFunc := { nparams := 1, ntmps := 8, nsites := 0, results := [.tmp 2], body := b19 }
section
variable (G : VProg)
theorem loose (hG : G 19 = some (.code v19)) (es fz ls off left) : lim G 19 [q0] [plateO es fz ls off left] = some (.int .i64 ls.length, [plateO es fz ls off left]) := by
  cases fz
  all_goals exact lim_fun hG (h := runV trivial trivial trivial)
end
end P1
end Go.Vq
namespace Go.Vq
namespace P1
open Go
set_option maxRecDepth 1000000
set_option maxHeartbeats 4000000
def bodyFl : VCode := (.seq (.region [⟨some 17, .bin (.lss) (.tmp 16) (.tmp 15), none, 0⟩] false) (.seq (.cond (.tmp 17) (.skip) (.exit 0)) (.seq (.block 1 none (.seq (.region [⟨some 18, .indexAddr none 65 (.tmp 14) (.tmp 16), none, 0⟩, ⟨some 19, .load true 65 (.tmp 18), none, 1⟩, ⟨some 5, .alloc 0 ([(.int .i64 0)] ++ Z8 64), none, 0⟩, ⟨none, .store 65 (.tmp 5) (.tmp 19), none, 7⟩] false) (.region [⟨some 20, .move (.tmp 0), none, 0⟩, ⟨some 21, .nilCheck (.tmp 20), none, 1⟩, ⟨some 22, .fieldAddr 0 (.tmp 21), none, 3⟩, ⟨some 23, .load false 1 (.tmp 22), none, 7⟩, ⟨some 24, .fieldAddr 0 (.tmp 5), none, 0⟩, ⟨some 25, .load false 1 (.tmp 24), none, 16⟩, ⟨some 26, .fieldAddr 1 (.tmp 5), none, 0⟩, ⟨some 27, .load true 64 (.tmp 26), none, 64⟩, ⟨some 28, .indexAddr none 64 (.tmp 23) (.tmp 25), none, 255⟩, ⟨none, .store 64 (.tmp 28) (.tmp 27), none, 511⟩] true))) (.region [⟨some 29, .bin (.add) (.tmp 16) (.val (.int .i64 1)), none, 0⟩, ⟨some 16, .move (.tmp 29), none, 1⟩] false))))
abbrev wr (es : List (List Nat)) (w : Nat × List Nat) : List (List Nat) := es.set w.1 w.2
def SFl (es : List (List Nat)) (fz : Bool) (ls : List (Nat × List Nat)) (off : Bool) (left : Int) (i : Nat) : St :=
  ⟨(q0 :: .gone 0 :: .gone 0 :: .gone 0 :: .gone 0 :: .gone 0 :: .gone 0 :: .gone 0 :: .gone 0 :: .gone 0 :: .gone 0 :: q0 :: q0 :: .ptr (.obj 0 1) :: .srf (.obj 0 1) 0 65 0 ls.length :: .int .i64 ls.length :: .int .i64 i :: .gone 0 :: .gone 0 :: .gone 0 :: .gone 0 :: .gone 0 :: .gone 0 :: .gone 0 :: .gone 0 :: .gone 0 :: .gone 0 :: .gone 0 :: .gone 0 :: .gone 0 :: .gone 0 :: .gone 0 :: .gone 0 :: []), [some (plateO ((ls.take i).foldl wr es) fz ls off left), none]⟩
theorem foldl_wr_len (es : List (List Nat)) (ls : List (Nat × List Nat)) : (ls.foldl wr es).length = es.length := by
  induction ls generalizing es with
  | nil => rfl
  | cons w ls ih => rw [List.foldl_cons, ih]; simp
theorem foldl_wr_64 {es : List (List Nat)} {ls : List (Nat × List Nat)} (he : ∀ c ∈ es, c.length = 64) (hl : ∀ w ∈ ls, w.2.length = 64) : ∀ c ∈ ls.foldl wr es, c.length = 64 := by
  induction ls generalizing es with
  | nil => exact he
  | cons w ls ih =>
    rw [List.foldl_cons]
    refine ih (fun c hc => ?_) (fun w hw => hl w (List.mem_cons_of_mem _ hw))
    rcases List.mem_or_eq_of_mem_set hc with h | h
    · exact he c h
    · rw [h]; exact hl w List.mem_cons_self
theorem setCells_cell {c d : List Nat} (h : c.length = d.length) : V.setCells (cellV c) 0 (byN d) = cellV d := by
  show V.agg (splice (byN c) 0 (byN d)) = _
  simp only [splice, List.take_zero, List.nil_append, Nat.zero_add]
  rw [List.drop_of_length_le (by rw [byN_len, byN_len]; omega), List.append_nil]
section
variable (G : VProg)
theorem fl_round (es fz ls off left) (he : ∀ c ∈ es, c.length = 64) (hl : ∀ w ∈ ls, w.1 < es.length ∧ w.2.length = 64) (hn : ls.length < 2 ^ 40) (i : Nat) (hi : i < ls.length) (Q : Out → St → Prop) (J : Nat → Prop) (hj : J (i + 1)) :
    WL G 1 bodyFl (SFl es fz ls off left i) (Qrnd (some [0, 11, 12, 13, 14, 15, 16]) 1 (SFl es fz ls off left) J Q) := by
  have hlt : decide ((i : Int) < ls.length) = true := by simp; omega
  have hw := hl ls[i] (List.getElem_mem _)
  obtain ⟨es', hes⟩ : ∃ es', es' = (ls.take i).foldl wr es := ⟨_, rfl⟩
  have hel : es'.length = es.length := by rw [hes, foldl_wr_len]
  have hinc := inc64 i (by omega)
  have h64 : es'[ls[i].1].length = 64 := by
    have := foldl_wr_64 (es := es) (ls := ls.take i) he (fun w hw => (hl w (List.mem_of_mem_take hw)).2)
    rw [← hes] at this
    exact this _ (List.getElem_mem _)
  have e2 : (ls.take (i + 1)).foldl wr es = wr es' ls[i] := by rw [List.take_succ_eq_append_getElem hi, List.foldl_append, ← hes]; rfl
  have h1 : (ls.map writeV)[i]? = some (writeV ls[i]) := by simp [hi]
  obtain ⟨⟨a, c⟩, hac⟩ : ∃ x, x = ls[i] := ⟨_, rfl⟩
  simp only [← hac] at hw h64 e2 h1
  obtain ⟨d, hd⟩ : ∃ d, d = es'[a]'(by rw [hel]; exact hw.1) := ⟨_, rfl⟩
  rw [← hd] at h64
  have h2 : (es'.map cellV)[a]? = some (cellV d) := by rw [hd]; simp [hel, hw.1]
  obtain ⟨hw1, hw2⟩ := hw
  have e1 : (List.map cellV es').set a ((cellV d).setCells 0 (byN c)) = List.map cellV (wr es' (a, c)) := by
    rw [setCells_cell (h64.trans hw2.symm), ← List.map_set]
  have tc := take_by hw2
  have td := take_by h64
  unfold SFl bodyFl
  rw [← hes]
  cases fz
  all_goals
    refine runV (And.intro hlt (And.intro hinc (And.intro hw2 (And.intro h64 (And.intro h1 (And.intro h2 (And.intro tc (And.intro td e1)))))))) trivial ?_
    refine Qr_n (i + 1) ?_ hj
    simp only [e2]
    kernel_rfl
theorem flush (hG : G 18 = some (.code v18))
    (h46 : ∀ es fz ls off left, LR left → lim G 46 [q0] [plateO es fz ls off left] = some (.int .i64 (spE off left), [plateO es fz ls (spO off left) (spL off left)]))
    (es fz ls off left) (he : ∀ c ∈ es, c.length = 64) (hw : ∀ w ∈ ls, w.1 < es.length ∧ w.2.length = 64) (hb : ls.length < 2 ^ 40) (hl : LR left) :
    lim G 18 [q0] [plateO es fz ls off left] = if spO off left then some (.int .i64 72, [plateO es fz ls true left]) else some (.int .i64 0, [plateO (ls.foldl wr es) false [] false (spL off left)]) := by
  have eL : spO off left = true → spL off left = left := by intro h; unfold spL; unfold spO at h; rw [if_pos h]
  have g2 := h46 es fz ls off left hl
  have hE : spE off left = (if spO off left = true then 72 else 0) := rfl
  cases hs : spO off left <;> rw [hs] at g2 hE <;> rw [hE] at g2
  · cases fz
    case false =>
      refine lim_fun hG (h := runV trivial trivial ?_)
      refine WL_loop (SFl es false ls false (spL off left)) (fun i => i ≤ ls.length) (fun i => ls.length - i) ?_ 0 _ (Nat.zero_le _) (by kernel_rfl)
      intro i hi
      by_cases h : i < ls.length
      · exact fl_round G es false ls false (spL off left) he hw hb i h _ _ ⟨by omega, by omega⟩
      · obtain rfl : i = ls.length := by omega
        have hlt : decide ((ls.length : Int) < ls.length) = false := by simp
        unfold SFl
        simp only [List.take_length]
        refine runV hlt trivial ?_
        refine Qr_x ?_
        refine Qb_x (σ1 := ⟨(q0 :: .gone 0 :: .gone 0 :: .gone 0 :: .gone 0 :: .gone 0 :: .gone 0 :: .gone 0 :: .gone 0 :: .gone 0 :: .gone 0 :: .gone 0 :: .gone 0 :: .gone 0 :: .gone 0 :: .gone 0 :: .gone 0 :: .gone 0 :: .gone 0 :: .gone 0 :: .gone 0 :: .gone 0 :: .gone 0 :: .gone 0 :: .gone 0 :: .gone 0 :: .gone 0 :: .gone 0 :: .gone 0 :: .gone 0 :: .gone 0 :: .gone 0 :: .gone 0 :: []), [some (plateO (ls.foldl wr es) false ls false (spL off left)), none]⟩) (by kernel_rfl) ?_
        exact runV trivial trivial trivial
    case true =>
      refine lim_fun hG (h := runV trivial trivial ?_)
      refine WL_loop (SFl es true ls false (spL off left)) (fun i => i ≤ ls.length) (fun i => ls.length - i) ?_ 0 _ (Nat.zero_le _) (by kernel_rfl)
      intro i hi
      by_cases h : i < ls.length
      · exact fl_round G es true ls false (spL off left) he hw hb i h _ _ ⟨by omega, by omega⟩
      · obtain rfl : i = ls.length := by omega
        have hlt : decide ((ls.length : Int) < ls.length) = false := by simp
        unfold SFl
        simp only [List.take_length]
        refine runV hlt trivial ?_
        refine Qr_x ?_
        refine Qb_x (σ1 := ⟨(q0 :: .gone 0 :: .gone 0 :: .gone 0 :: .gone 0 :: .gone 0 :: .gone 0 :: .gone 0 :: .gone 0 :: .gone 0 :: .gone 0 :: .gone 0 :: .gone 0 :: .gone 0 :: .gone 0 :: .gone 0 :: .gone 0 :: .gone 0 :: .gone 0 :: .gone 0 :: .gone 0 :: .gone 0 :: .gone 0 :: .gone 0 :: .gone 0 :: .gone 0 :: .gone 0 :: .gone 0 :: .gone 0 :: .gone 0 :: .gone 0 :: .gone 0 :: .gone 0 :: []), [some (plateO (ls.foldl wr es) true ls false (spL off left)), none]⟩) (by kernel_rfl) ?_
        exact runV trivial trivial trivial
  · have eL := eL hs
    rw [eL] at g2
    cases fz
    all_goals exact lim_fun hG (h := runV trivial trivial trivial)
end
end P1
end Go.Vq
