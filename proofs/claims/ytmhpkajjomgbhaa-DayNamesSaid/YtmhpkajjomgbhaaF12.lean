/- A machine of values and its tie to the model, and runs of it: part 12 of 15 (no law of Go is stated here). -/
import Derived.Test.YtmhpkajjomgbhaaF11
import Derived.KernelRfl
set_option linter.unusedVariables false
set_option linter.unusedSimpArgs false
set_option linter.unusedSectionVars false
set_option linter.unusedVariables false
set_option maxRecDepth 1000000
namespace Go.Vq
section
variable {G : VProg} {base : Nat} {σ σ1 : St} {Q : Out → St → Prop}
abbrev WL (G : VProg) (base : Nat) (c : VCode) (σ : St) (Q : Out → St → Prop) : Prop := W (lim G) (itersOf G) (limX G) base c σ Q
theorem lim_W {f : FuncId} {fn : VFunc} {args : List V} {objs : List Obj} {res : V × List Obj} (hf : G f = some (.code fn)) (hl : args.length = fn.nparams ∧ fn.nparams ≤ fn.ntmps) (h : WL G objs.length fn.body (start fn args objs) (Qend fn objs.length (some res))) : lim G f args objs = some res := by
  obtain ⟨o, s, h1, h2, h3⟩ := h
  exact lim_code hf hl h1 h2 h3
theorem lim_fun {f : FuncId} {fn : VFunc} {args : List V} {objs : List Obj} {res : V × List Obj} {body : VCode} {σ0 : St} {base : Nat} (hf : G f = some (.code fn)) (hl : args.length = fn.nparams ∧ fn.nparams ≤ fn.ntmps := by exact ⟨rfl, by decide⟩) (hb : fn.body = body := by rfl) (hs : start fn args objs = σ0 := by (simp only [Vq.start, List.length_cons, List.length_nil, List.map_cons, List.map_nil, List.cons_append, List.nil_append, List.replicate_succ, List.replicate_zero, Nat.reduceAdd, Nat.reduceSub]; exact rfl)) (hbs : objs.length = base := by (simp only [List.length_cons, List.length_nil, Nat.reduceAdd]; exact rfl))
    (h : WL G base body σ0 (Qend fn base (some res))) : lim G f args objs = some res := by
  subst hb hs hbs
  exact lim_W hf hl h
theorem WL_loop {α : Type} {keep : Option (List Nat)} {body : VCode} (S : α → St) (I : α → Prop) (μ : α → Nat)
    (hr : ∀ a, I a → WL G base body (S a) (Qrnd keep base S (fun b => I b ∧ μ b < μ a) Q)) (a : α) (σ : St) (hI : I a) (hs : rebase? keep base σ = S a) : WL G base (.loop keep body) σ Q := by
  have key : ∀ (k : Nat) (a : α) (σ : St), I a → μ a ≤ k → rebase? keep base σ = S a → WL G base (.loop keep body) σ Q := by
    intro k
    induction k with
    | zero =>
      intro a σ hI hk hs
      obtain ⟨o, s, h1, h2⟩ := hr a hI
      rcases h2 with ⟨rfl, b, h3, h4, h5⟩ | ⟨h3, h4⟩
      · omega
      · exact ⟨o, s, step_loop_out hs h1 h3, h4⟩
    | succ k ih =>
      intro a σ hI hk hs
      obtain ⟨o, s, h1, h2⟩ := hr a hI
      rcases h2 with ⟨rfl, b, h3, h4, h5⟩ | ⟨h3, h4⟩
      · obtain ⟨o', s', h6, h7⟩ := ih b s h4 (by omega) h3
        exact ⟨o', s', step_loop hs h1 (limX_step h6), h7⟩
      · exact ⟨o, s, step_loop_out hs h1 h3, h4⟩
  exact key (μ a) a σ hI (Nat.le_refl _) hs
theorem gLim {f : FuncId} {a : List V} {o : List Obj} {r : V × List Obj} (h : lim G f a o = some r) : lim G f a o = some r := h
end
theorem byN_takeL (l : List Nat) : (byN l).take l.length = byN l := take_by rfl
section
variable {σ τ : St} {rs ws r0 r1 : List Loc} {t : Nat} {us vs : List V} {xs : List Opd}
theorem PA_S {h0 : Home} {g sz off len : Nat} {own : Bool} {es : List V} (h : σ.slots[t]? = some (.srf h0 g sz off len)) (ha : ∀ (k' : Bool → List V → Prog), PR (k' own es) σ (r1 ++ rs) ws τ → PR (gElems h0 g sz k') σ (r0 ++ (r1 ++ rs)) ws τ) (hl : off + len ≤ es.length) (hv : (es.drop off).take len = us)
    (hr : ∀ (k : List V → Prog), PR (k vs) σ rs ws τ → PR (presArgs xs k) σ (r1 ++ rs) ws τ) : ∀ (k : List V → Prog), PR (k (.isl 0 sz us :: vs)) σ rs ws τ → PR (presArgs (.tmp t :: xs) k) σ ((.slot t :: (r0 ++ r1)) ++ rs) ws τ := by
  intro k h2
  subst hv
  rw [List.cons_append, List.append_assoc]
  refine PR_getS h ?_
  show PR (gElems h0 g sz fun _ es => if off + len ≤ es.length then presArgs xs (fun vs => k (.isl 0 sz ((es.drop off).take len) :: vs)) else .fail) σ _ ws τ
  refine ha _ ?_
  simp only [if_pos hl]
  exact hr (fun vs => k (.isl 0 sz ((es.drop off).take len) :: vs)) h2
theorem PR_keepsR {mk : Nat → Option Home} {i : Nat} {h0 : Home} {g sz off len : Nat} {vs : List V} {k : List V → Prog} (hm : mk i = some h0) (h : PR (settle1 (some h0) (.srf h0 g sz off len) fun v' => keeps mk (i + 1) vs fun vs' => k (v' :: vs')) σ rs ws τ) :
    PR (keeps mk i (.srf h0 g sz off len :: vs) k) σ rs ws τ := by simp only [keeps, keep1, hm, if_true]; exact h
theorem PA_G {v : V} (h : σ.slots[t]? = some v) (hnt : ∀ us, v ≠ .tup us) (hp : ∀ (k : List V → Prog), PR (k us) σ (r1 ++ rs) ws τ → PR (press v.leaves k) σ (r0 ++ (r1 ++ rs)) ws τ)
    (hr : ∀ (k : List V → Prog), PR (k vs) σ rs ws τ → PR (presArgs xs k) σ (r1 ++ rs) ws τ) : ∀ (k : List V → Prog), PR (k (v.withLeaves us :: vs)) σ rs ws τ → PR (presArgs (.tmp t :: xs) k) σ ((.slot t :: (r0 ++ r1)) ++ rs) ws τ := by
  intro k h2
  rw [List.cons_append, List.append_assoc]
  refine PR_getS h ?_
  have := hp (fun ls => presArgs xs fun vs => k (v.withLeaves ls :: vs)) (hr (fun vs => k (v.withLeaves us :: vs)) h2)
  cases v <;> first | exact this | exact absurd rfl (hnt _)
theorem PA_A {o off len : Nat} {cs ys zs : List V} (h : σ.slots[t]? = some (.asl (.obj o off) len)) (ho : σ.objs[o]? = some (some (.cells cs))) (hl : off + len ≤ cs.length) (hv : (cs.drop off).take len = ys) (hb : borrows (fun i => .obj o (off + i)) 0 ys = zs) (hf : zs.all V.flat = true)
    (hr : ∀ (k : List V → Prog), PR (k vs) σ rs ws τ → PR (presArgs xs k) σ (r1 ++ rs) ws τ) : ∀ (k : List V → Prog), PR (k (.isl 0 1 zs :: vs)) σ rs ws τ → PR (presArgs (.tmp t :: xs) k) σ ((.slot t :: .obj o :: r1) ++ rs) ws τ := by
  intro k h2
  rw [List.cons_append]
  refine PR_getS h ?_
  rw [List.cons_append]
  show PR (gCells (.obj o off) len fun cs => if cs.all V.flat then presArgs xs (fun vs => k (.isl 0 1 cs :: vs)) else .fail) σ _ ws τ
  refine PR_cellsO ho hl hv hb ?_
  simp only [hf, if_true]
  exact hr (fun vs => k (.isl 0 1 zs :: vs)) h2
theorem P0_nil : ∀ (k : List V → Prog), PR (k []) σ rs ws τ → PR (press0 [] k) σ rs ws τ := fun _ h => h
theorem P0_c {v v' : V} {ls : List V} (h : ∀ k, pres0 v k = k v') (hr : ∀ (k : List V → Prog), PR (k us) σ rs ws τ → PR (press0 ls k) σ rs ws τ) : ∀ (k : List V → Prog), PR (k (v' :: us)) σ rs ws τ → PR (press0 (v :: ls) k) σ rs ws τ := by
  intro k h2
  simp only [press0, h]
  exact hr (fun vs => k (v' :: vs)) h2
theorem PA_P {o off : Nat} {cs ls : List V} (h : σ.slots[t]? = some (.ptr (.obj o off))) (ho : σ.objs[o]? = some (some (.cells cs))) (hp : ∀ (k : List V → Prog), PR (k ls) σ (r1 ++ rs) ws τ → PR (press0 (cs.drop off) k) σ (r1 ++ rs) ws τ) (hall : ls.all V.inElem = true)
    (hr : ∀ (k : List V → Prog), PR (k vs) σ rs ws τ → PR (presArgs xs k) σ (r1 ++ rs) ws τ) : ∀ (k : List V → Prog), PR (k (.iptr ls :: vs)) σ rs ws τ → PR (presArgs (.tmp t :: xs) k) σ ((.slot t :: .obj o :: r1) ++ rs) ws τ := by
  intro k h2
  rw [List.cons_append]
  refine PR_getS h ?_
  rw [List.cons_append]
  show PR (.getO o fun | some (.cells cs) => press0 (cs.drop off) fun ls => if ls.all V.inElem then presArgs xs (fun vs => k (.iptr ls :: vs)) else .fail | _ => .fail) σ _ ws τ
  refine PR_getO ho ?_
  refine hp _ ?_
  simp only [hall, if_true]
  exact hr (fun vs => k (.iptr ls :: vs)) h2
theorem PS_nil : ∀ (k : List V → Prog), PR (k []) σ rs ws τ → PR (press [] k) σ ([] ++ rs) ws τ := fun _ h => h
theorem PS_c {v : V} {ls : List V} (h : ∀ k, pres1 v k = k v) (hr : ∀ (k : List V → Prog), PR (k us) σ rs ws τ → PR (press ls k) σ (r0 ++ rs) ws τ) : ∀ (k : List V → Prog), PR (k (v :: us)) σ rs ws τ → PR (press (v :: ls) k) σ (r0 ++ rs) ws τ := by
  intro k h2
  simp only [press, h]
  exact hr (fun vs => k (v :: vs)) h2
theorem PS_s {h0 : Home} {g sz off len : Nat} {own : Bool} {es ls es' : List V} (ha : ∀ (k' : Bool → List V → Prog), PR (k' own es) σ (r1 ++ rs) ws τ → PR (gElems h0 g sz k') σ (r0 ++ (r1 ++ rs)) ws τ) (hl : off + len ≤ es.length) (hv : (es.drop off).take len = es')
    (hr : ∀ (k : List V → Prog), PR (k us) σ rs ws τ → PR (press ls k) σ (r1 ++ rs) ws τ) : ∀ (k : List V → Prog), PR (k (.isl 0 sz es' :: us)) σ rs ws τ → PR (press (.srf h0 g sz off len :: ls) k) σ ((r0 ++ r1) ++ rs) ws τ := by
  intro k h2
  subst hv
  rw [List.append_assoc]
  show PR (gElems h0 g sz fun _ es => if off + len ≤ es.length then press ls (fun vs => k (.isl 0 sz ((es.drop off).take len) :: vs)) else .fail) σ _ ws τ
  refine ha _ ?_
  simp only [if_pos hl]
  exact hr (fun vs => k (.isl 0 sz ((es.drop off).take len) :: vs)) h2
end
theorem runV {c d p q : Prop} (s : c) (u : d) (hq : q) (h : c → d → Vq.Hid q → p := by (intro s u hQ; (repeat' (first | ((with_reducible apply Vq.gPR); (first | ((with_reducible first | apply Vq.PR_opdT | apply Vq.PR_intT); (· exact rfl); (try dsimp only)) | (with_reducible first | apply Vq.PR_putO | exact Vq.PR_ret | apply Vq.PR_optV) | ((first | (with_reducible apply Vq.PO_n) | ((with_reducible apply Vq.PO_t); (· exact rfl)) | ((with_reducible apply Vq.PO_f); (· exact rfl); (· exact rfl)) | ((with_reducible apply Vq.PO_u); (· exact rfl))); dsimp only [Vq.opProg, Vq.skipP, Vq.gOptInt, Vq.gThere]) | ((with_reducible first | apply Vq.PR_opdV | apply Vq.PR_intV | apply Vq.PR_boolV | apply Vq.PR_putN | apply Vq.PR_drainV | apply Vq.PR_build | apply Vq.PR_build0 | apply Vq.PR_buildS | apply Vq.PR_buildS0); (try dsimp only)) | ((with_reducible first | apply Vq.PR_gMoveP | apply Vq.PR_gKeepP | apply Vq.PR_gImmP); (· exact rfl); (· exact rfl); (try dsimp only)) | ((with_reducible first | apply Vq.PR_gMove | apply Vq.PR_gKeep | apply Vq.PR_gImm); (· exact rfl); (· exact rfl); (try dsimp only [Vq.V.leaves])) | ((with_reducible first | apply Vq.PR_gMoveV | apply Vq.PR_gKeepV | apply Vq.PR_gImmV); (try dsimp only); rotate_left; (· exact rfl)) | ((with_reducible apply Vq.PR_drain1); (· exact rfl); (· exact rfl)) | ((with_reducible apply Vq.PR_keepsR); (· exact rfl); (try dsimp only)) | ((with_reducible apply Vq.PR_settleR); (try dsimp only)) | (with_reducible first | apply Vq.PR_drain0 | apply Vq.PR_settle | apply Vq.PR_keeps | apply Vq.PR_cellsO | apply Vq.PR_scellsO | apply Vq.PR_shomeO | apply Vq.PR_shomeS | apply Vq.PR_setS | apply Vq.PR_setO) | ((with_reducible first | apply Vq.PR_boolT | apply Vq.PR_getS | apply Vq.PR_getO); (· exact rfl); (try dsimp only)) | ((with_reducible first | apply Vq.PR_elemsO | apply Vq.PR_elemsS); (· exact rfl); (· exact rfl); (· exact rfl); (try dsimp only)) | ((with_reducible first | apply Vq.PR_cellsE | apply Vq.PR_scellsE | apply Vq.PR_viewR); (· first | (apply Vq.PR_aelO; (· exact rfl); (· exact rfl); (· exact rfl)) | (apply Vq.PR_aelS; (· exact rfl); (· exact rfl); (· exact rfl)))) | ((with_reducible apply Vq.PR_viewA); (· exact rfl)) | ((with_reducible first | apply Vq.PR_view | apply Vq.PR_len); (· exact rfl); (try dsimp only)) | ((with_reducible first | apply Vq.PR_call | apply Vq.PR_lendN | apply Vq.PR_reachN | apply Vq.PR_getObN | apply Vq.PR_setObN | apply Vq.PR_newObN | apply Vq.PR_theres) <;> (try simp only [Vq.idsIn_by, Vq.idsIn_c, Vq.idsIn_n, Vq.ids_agg, Vq.ids_ptr, Vq.ids_int, Vq.ids_bool, Vq.ids_str, Vq.ids_isl, Vq.ids_xsl, Vq.ids_fsl, Vq.ids_nilS, List.nil_append, List.cons_append, List.append_nil])) | ((with_reducible apply Vq.PR_lendT); (· exact rfl); (· intro _ e; cases e); (try simp only [Vq.V.leaves, Vq.borrows_by, Vq.borrows, Vq.borrow1, Vq.V.withLeaves, List.headD_cons, List.map_cons, List.map_nil])) | ((with_reducible apply Vq.PR_lendV); (· intro _ e; cases e); (try dsimp only)) | ((with_reducible apply Vq.PR_calliR); (· exact rfl); (· first | (apply Vq.PR_aelO; (· exact rfl); (· exact rfl); (· exact rfl)) | (apply Vq.PR_aelS; (· exact rfl); (· exact rfl); (· exact rfl))); (· assumption)) | ((with_reducible apply Vq.PR_calli0); (· exact rfl); (· first | (apply Vq.PR_aelO; (· exact rfl); (· exact rfl); (· exact rfl)) | (apply Vq.PR_aelS; (· exact rfl); (· exact rfl); (· exact rfl))); (· exact rfl)) | ((with_reducible first | apply Vq.PR_callR | apply Vq.PR_moveN) <;> (try simp only [Vq.idsIn_by, Vq.idsIn_c, Vq.idsIn_n, Vq.ids_agg, Vq.ids_ptr, Vq.ids_int, Vq.ids_bool, Vq.ids_str, Vq.ids_isl, Vq.ids_xsl, Vq.ids_fsl, Vq.ids_nilS, List.nil_append, List.cons_append, List.append_nil])) | ((with_reducible apply Vq.PR_moveT); (· exact rfl); (· exact rfl); (try dsimp only)) | ((with_reducible apply Vq.PR_moveV); (· exact rfl); (try dsimp only)) | ((with_reducible apply Vq.PR_move0T); (· exact rfl); (· exact rfl); (· intro _ e; cases e); (try simp only [Vq.V.leaves, Vq.borrows_by, Vq.borrows, Vq.borrow1, Vq.V.withLeaves, List.headD_cons, List.map_cons, List.map_nil])) | ((with_reducible apply Vq.PR_move0V); (· exact rfl); (· intro _ e; cases e); (try dsimp only)) | ((with_reducible apply Vq.PR_reachC); (· decide); (· exact rfl); (try simp only [Vq.idsIn_by, Vq.idsIn_c, Vq.idsIn_n, Vq.ids_agg, Vq.ids_ptr, Vq.ids_int, Vq.ids_bool, Vq.ids_str, Vq.ids_isl, Vq.ids_xsl, Vq.ids_fsl, Vq.ids_nilS, List.nil_append, List.cons_append, List.append_nil])) | ((with_reducible apply Vq.PR_reachS); (· decide)) | ((with_reducible first | apply Vq.PR_getObC | apply Vq.PR_newObC); (· exact rfl)) | (with_reducible apply Vq.PR_callA) | ((with_reducible apply Vq.gReach); simp only [Vq.idsIn_by, Vq.idsIn_c, Vq.idsIn_n, Vq.ids_agg, Vq.ids_ptr, Vq.ids_int, Vq.ids_bool, Vq.ids_str, Vq.ids_isl, Vq.ids_xsl, Vq.ids_fsl, Vq.ids_nilS, List.nil_append, List.cons_append, List.append_nil, List.headD_cons, List.map_cons, List.map_nil, Vq.freeze1]) | ((with_reducible apply Vq.PR_callK); (· decide)) | ((with_reducible apply Vq.PR_setObC); (· exact rfl)) | ((with_reducible apply Vq.PR_resRef); (· intro _ _ _ _ _ e; cases e); (try dsimp only)) | ((with_reducible apply Vq.PR_set1X); (· first | (apply Vq.PR_ahO; (· exact rfl); (· exact rfl)) | (apply Vq.PR_ahS; (· exact rfl); (· exact rfl)))) | ((with_reducible apply Vq.PR_set1F); (· first | (apply Vq.PR_ahO; (· exact rfl); (· exact rfl)) | (apply Vq.PR_ahS; (· exact rfl); (· exact rfl)))) | ((with_reducible apply Vq.PR_set2I); (· first | (apply Vq.PR_ahO; (· exact rfl); (· exact rfl)) | (apply Vq.PR_ahS; (· exact rfl); (· exact rfl)))) | ((with_reducible apply Vq.PR_set2X); (· first | (apply Vq.PR_ahO; (· exact rfl); (· exact rfl)) | (apply Vq.PR_ahS; (· exact rfl); (· exact rfl))); (· decide)) | ((with_reducible apply Vq.PR_set2F); (· first | (apply Vq.PR_ahO; (· exact rfl); (· exact rfl)) | (apply Vq.PR_ahS; (· exact rfl); (· exact rfl))); (· decide)) | ((with_reducible apply Vq.PR_ifN); (· exact rfl)) | (simp only [z1, z2, z3, z4, z5, z6, z7, z8, z9, z10, z11, z12, z13, z14, z15, z16, z17, z18, List.length_map, V.withLeaves, V.borrow, zero1, freeze1, borrows, borrow1, V.leaves, V.nextg, Nat.reduceAdd, Nat.reduceSub, layTup, obj1, splice, Bool.false_eq_true, if_true, if_false, Bool.not_true, Bool.not_false, Vq.take_mapl, Int.toNat_natCast, Int.toNat_zero, Nat.add_zero, Nat.sub_zero, Nat.zero_add, Int.reduceToNat, Vq.binV_shr, Vq.binV_shl, Int.natCast_nonneg, Vq.flat_by, Vq.byN_take, Vq.byN_len, Vq.here_by, Vq.here_int, Vq.here_bool, Vq.here_str, Vq.here_isl, Vq.here_xsl, Vq.here_nil, Vq.obj1_by, Vq.freeze1_by, Vq.inObj_by, Vq.inElem_by, Vq.plain_by, Vq.V.cells, Vq.here_intL, Vq.here_boolL, Vq.here_strL, Vq.here_islL, Vq.here_xslL, Vq.here_fslL, Vq.here_ptrL, Vq.here_nilP, Vq.V.inElem, Vq.V.inObj, List.length_append, List.length_replicate, List.length_set, List.drop_replicate, List.replicate_zero, List.append_nil, List.take_length, Nat.reduceSub, List.map_cons, List.map_nil, List.all_cons, List.all_nil, Vq.freeze1, Vq.obj1, Bool.and_true, Bool.true_and, List.flatMap_cons, List.flatMap_nil, List.append_nil, Vq.regens_by0, Vq.regens_bb, Vq.regens_zb, List.take_replicate, Nat.min_self, Nat.zero_min, List.nil_append, Vq.ofCells, Bool.false_eq_true, if_false, Vq.regens_nn, Vq.regens_g0, Vq.regens_0c, Vq.regens_c, Vq.regen1, Vq.V.nextg, Option.bind_some, Option.map_some, if_true, Vq.borrows_by, Vq.byN_app, Vq.V.sz?, Vq.lenOf, Vq.TK.fits, Vq.gThere, Vq.subV, List.map_cons, List.map_nil, List.flatMap_cons, List.flatMap_nil, ge_iff_le, gt_iff_lt, Vq.byN_len, Vq.byN_takeL, beq_self_eq_true, bne_self_eq_false, s, u, if_true, if_false, eq_self, Nat.reduceEqDiff]) | (apply Vq.PR_ifT; (· exact rfl)) | (apply Vq.PR_ifF; (· exact rfl)) | (apply Vq.PR_if) | (simp only [z1, z2, z3, z4, z5, z6, z7, z8, z9, z10, z11, z12, z13, z14, z15, z16, z17, z18, List.length_map, V.withLeaves, V.borrow, zero1, freeze1, borrows, borrow1, V.leaves, V.nextg, Nat.reduceAdd, Nat.reduceSub, layTup, obj1, splice, Bool.false_eq_true, if_true, if_false, Bool.not_true, Bool.not_false, Vq.take_mapl, Int.toNat_natCast, Int.toNat_zero, Nat.add_zero, Nat.sub_zero, Nat.zero_add, Int.reduceToNat, Vq.binV_shr, Vq.binV_shl, Int.natCast_nonneg, Vq.flat_by, Vq.byN_take, Vq.byN_len, Vq.here_by, Vq.here_int, Vq.here_bool, Vq.here_str, Vq.here_isl, Vq.here_xsl, Vq.here_nil, Vq.obj1_by, Vq.freeze1_by, Vq.inObj_by, Vq.inElem_by, Vq.plain_by, Vq.V.cells, Vq.here_intL, Vq.here_boolL, Vq.here_strL, Vq.here_islL, Vq.here_xslL, Vq.here_fslL, Vq.here_ptrL, Vq.here_nilP, Vq.V.inElem, Vq.V.inObj, List.length_append, List.length_replicate, List.length_set, List.drop_replicate, List.replicate_zero, List.append_nil, List.take_length, Nat.reduceSub, List.map_cons, List.map_nil, List.all_cons, List.all_nil, Vq.freeze1, Vq.obj1, Bool.and_true, Bool.true_and, List.flatMap_cons, List.flatMap_nil, List.append_nil, Vq.regens_by0, Vq.regens_bb, Vq.regens_zb, List.take_replicate, Nat.min_self, Nat.zero_min, List.nil_append, Vq.ofCells, Bool.false_eq_true, if_false, Vq.regens_nn, Vq.regens_g0, Vq.regens_0c, Vq.regens_c, Vq.regen1, Vq.V.nextg, Option.bind_some, Option.map_some, if_true, Vq.borrows_by, Vq.byN_app, Vq.V.sz?, Vq.lenOf, Vq.TK.fits, Vq.gThere, Vq.subV, List.map_cons, List.map_nil, List.flatMap_cons, List.flatMap_nil, ge_iff_le, gt_iff_lt, Vq.byN_len, Vq.byN_takeL, beq_self_eq_true, bne_self_eq_false, s, u]))) | ((with_reducible apply Vq.gWO); (first | (with_reducible apply Vq.WO_nil) | ((with_reducible first | apply Vq.gWOs | apply Vq.gWOo); simp only [z1, z2, z3, z4, z5, z6, z7, z8, z9, z10, z11, z12, z13, z14, z15, z16, z17, z18, List.length_map, V.withLeaves, V.borrow, zero1, freeze1, borrows, borrow1, V.leaves, V.nextg, Nat.reduceAdd, Nat.reduceSub, layTup, obj1, splice, Bool.false_eq_true, if_true, if_false, Bool.not_true, Bool.not_false, Vq.take_mapl, Int.toNat_natCast, Int.toNat_zero, Nat.add_zero, Nat.sub_zero, Nat.zero_add, Int.reduceToNat, ge_iff_le, gt_iff_lt, Vq.byN_len, Vq.byN_takeL, beq_self_eq_true, bne_self_eq_false, s]) | ((with_reducible apply Vq.WO_cons); (· first | exact rfl | ((try apply S6.vguard rfl); (first | apply S11.vshrT rfl rfl (Int.natCast_nonneg _) | apply S11.vshlT rfl rfl (Int.natCast_nonneg _) | apply S11.vshlV rfl (Int.natCast_nonneg _)); exact rfl)); (try simp only [z1, z2, z3, z4, z5, z6, z7, z8, z9, z10, z11, z12, z13, z14, z15, z16, z17, z18, List.length_map, V.withLeaves, V.borrow, zero1, freeze1, borrows, borrow1, V.leaves, V.nextg, Nat.reduceAdd, Nat.reduceSub, layTup, obj1, splice, Bool.false_eq_true, if_true, if_false, Bool.not_true, Bool.not_false, Vq.take_mapl, Int.toNat_natCast, Int.toNat_zero, Nat.add_zero, Nat.sub_zero, Nat.zero_add, Int.reduceToNat, ge_iff_le, gt_iff_lt, Vq.byN_len, Vq.byN_takeL, beq_self_eq_true, bne_self_eq_false, s])) | (with_reducible apply Vq.PO_cons))) | ((with_reducible apply Vq.gWD); (first | ((with_reducible first | apply Vq.gWDs | apply Vq.gWDo); simp only [z1, z2, z3, z4, z5, z6, z7, z8, z9, z10, z11, z12, z13, z14, z15, z16, z17, z18, List.length_map, V.withLeaves, V.borrow, zero1, freeze1, borrows, borrow1, V.leaves, V.nextg, Nat.reduceAdd, Nat.reduceSub, layTup, obj1, splice, Bool.false_eq_true, if_true, if_false, Bool.not_true, Bool.not_false, Vq.take_mapl, Int.toNat_natCast, Int.toNat_zero, Nat.add_zero, Nat.sub_zero, Nat.zero_add, Int.reduceToNat, ge_iff_le, gt_iff_lt, Vq.byN_len, Vq.byN_takeL, beq_self_eq_true, bne_self_eq_false, s]) | (with_reducible first | apply Vq.PD_cons | apply Vq.WD_nil))) | ((with_reducible first | apply Vq.gQs | apply Vq.gQb); (first | (with_reducible first | apply Vq.Qs_n | apply Vq.Qs_r | apply Vq.Qs_e | apply Vq.Qb_n0 | apply Vq.Qb_x0 | apply Vq.Qb_r) | ((with_reducible apply Vq.Qb_ne); (· decide)))) | ((with_reducible apply Vq.gW); (first | (with_reducible first | apply Vq.W_seq | apply Vq.W_region | apply Vq.W_skip | apply Vq.W_ret | apply Vq.W_exit | apply Vq.W_block | apply Vq.W_draw) | ((with_reducible apply Vq.W_condT); (· exact rfl)) | ((with_reducible apply Vq.W_condF); (· exact rfl)) | ((first | ((with_reducible apply Vq.W_condD); (· exact rfl)) | ((with_reducible apply Vq.W_cond); (· exact rfl))); all_goals (intro hq; (try simp only [hq]))))) | ((with_reducible apply Vq.gLim); (first | assumption)) | ((with_reducible apply Vq.gThG); simp only [List.flatMap_cons, List.flatMap_nil, Vq.gTheres_app, Vq.V.leaves, Vq.gTheres, Vq.gThere1, Vq.gThere, Vq.gTheres_by]; done) | (exact fun _ => rfl) | (apply Vq.PA_nil) | ((with_reducible apply Vq.PA_P); (· exact rfl); (· exact rfl); (· repeat (first | (apply Vq.P0_nil) | (apply Vq.P0_c; (· exact fun _ => rfl)))); (· exact rfl)) | ((with_reducible apply Vq.PA_A); (· exact rfl); (· exact rfl)) | (exact Vq.flat_by _) | ((with_reducible apply Vq.PA_S); (· exact rfl); (· first | (apply Vq.PR_aelO; (· exact rfl); (· exact rfl); (· exact rfl)) | (apply Vq.PR_aelS; (· exact rfl); (· exact rfl); (· exact rfl)))) | ((with_reducible apply Vq.PA_T); (· exact rfl); (· intro _ e; cases e); (· (first | (exact fun _ => rfl) | (exact Vq.press_by _)))) | ((with_reducible apply Vq.PA_G); (· exact rfl); (· intro _ e; cases e); (· repeat (first | (apply Vq.PS_nil) | (apply Vq.PS_s; (· first | (apply Vq.PR_aelO; (· exact rfl); (· exact rfl); (· exact rfl)) | (apply Vq.PR_aelS; (· exact rfl); (· exact rfl); (· exact rfl))); (· (first | (simp only [Vq.byN_len, List.length_map]; done) | (simp only [Vq.byN_len, List.length_map]; omega) | (simp; done) | (simp; omega))); (· (first | exact rfl | (simp; done)))) | (apply Vq.PS_c; (· exact fun _ => rfl))))) | ((with_reducible apply Vq.PA_V); (· intro _ e; cases e)) | exact Vq.press_by _ | (with_reducible first | exact Vq.settle_by _ _ _ | exact Vq.keeps_by _ _ _ | exact fun _ => rfl) | (intro k; simp only [Vq.settle, Vq.settle1, Vq.settle_by, Vq.keeps, Vq.keep1, Vq.keeps_by]; first | done | exact rfl) | ((with_reducible first | apply Vq.gRens | apply Vq.gRen | apply Vq.gMapM); (first | (simp only [Vq.rens_by, Vq.rens_c, Vq.rens_n, Vq.ren_int, Vq.ren_bool, Vq.ren_str, Vq.ren_isl, Vq.ren_xsl, Vq.ren_fsl, Vq.ren_nilS, Vq.ren_nil, Vq.ren_iptr, Vq.ren_agg, Vq.ren_tup, Vq.ren_func, Vq.zero1_by, Vq.objRen_e, Vq.mapM_c, Vq.mapM_n, Vq.ren_ptr, Vq.gTheres_by, Vq.gTh_agg, Vq.flatMap_nil', z1, z2, z3, z4, z5, z6, z7, z8, z9, z10, z11, z12, z13, z14, z15, z16, z17, z18, List.length_map, V.withLeaves, V.borrow, zero1, freeze1, borrows, borrow1, V.leaves, V.nextg, Nat.reduceAdd, Nat.reduceSub, layTup, obj1, splice, Bool.false_eq_true, if_true, if_false, Bool.not_true, Bool.not_false, Vq.take_mapl, Int.toNat_natCast, Int.toNat_zero, Nat.add_zero, Nat.sub_zero, Nat.zero_add, Int.reduceToNat, Option.bind_some, Option.map_some, List.map_cons, List.map_nil, ge_iff_le, gt_iff_lt, Vq.byN_len, Vq.byN_takeL, beq_self_eq_true, bne_self_eq_false, s, u]; first | done | exact rfl) | exact rfl)) | ((with_reducible first | apply Vq.gSome | apply Vq.gTrue | apply Vq.gFalse); (first | exact regens_g0 _ | exact rfl | assumption | (simp only [List.flatMap_cons, List.flatMap_nil, List.append_nil, Vq.regens_by0, Vq.regens_bb, Vq.regens_zb, List.take_replicate, Nat.min_self, Nat.zero_min, List.nil_append, Vq.ofCells, Bool.false_eq_true, if_false, Vq.regens_nn, Vq.regens_g0, Vq.regens_0c, Vq.regens_c, Vq.regen1, Vq.V.nextg, Option.bind_some, Option.map_some, if_true, Vq.binV_shr, Vq.binV_shl, Int.natCast_nonneg, Vq.flat_by, Vq.byN_take, Vq.byN_len, Vq.here_by, Vq.here_int, Vq.here_bool, Vq.here_str, Vq.here_isl, Vq.here_xsl, Vq.here_nil, Vq.obj1_by, Vq.freeze1_by, Vq.inObj_by, Vq.inElem_by, Vq.plain_by, Vq.V.cells, Vq.here_intL, Vq.here_boolL, Vq.here_strL, Vq.here_islL, Vq.here_xslL, Vq.here_fslL, Vq.here_ptrL, Vq.here_nilP, Vq.V.inElem, Vq.V.inObj, List.length_append, List.length_replicate, List.length_set, List.drop_replicate, List.replicate_zero, List.append_nil, List.take_length, Nat.reduceSub, List.map_cons, List.map_nil, List.all_cons, List.all_nil, Vq.freeze1, Vq.obj1, Bool.and_true, Bool.true_and, Vq.hasX_by, Vq.hasX_int, Vq.hasX_bool, Vq.hasX_str, Vq.hasX_isl, Vq.hasX_nil, ge_iff_le, gt_iff_lt, Vq.byN_len, Vq.byN_takeL, beq_self_eq_true, bne_self_eq_false, s, u]; (first | done | exact rfl)))) | (first | (simp only [z1, z2, z3, z4, z5, z6, z7, z8, z9, z10, z11, z12, z13, z14, z15, z16, z17, z18, List.length_map, V.withLeaves, V.borrow, zero1, freeze1, borrows, borrow1, V.leaves, V.nextg, Nat.reduceAdd, Nat.reduceSub, layTup, obj1, splice, Bool.false_eq_true, if_true, if_false, Bool.not_true, Bool.not_false, Vq.take_mapl, Int.toNat_natCast, Int.toNat_zero, Nat.add_zero, Nat.sub_zero, Nat.zero_add, Int.reduceToNat, Vq.binV_shr, Vq.binV_shl, Int.natCast_nonneg, Vq.flat_by, Vq.byN_take, Vq.byN_len, Vq.here_by, Vq.here_int, Vq.here_bool, Vq.here_str, Vq.here_isl, Vq.here_xsl, Vq.here_nil, Vq.obj1_by, Vq.freeze1_by, Vq.inObj_by, Vq.inElem_by, Vq.plain_by, Vq.V.cells, Vq.here_intL, Vq.here_boolL, Vq.here_strL, Vq.here_islL, Vq.here_xslL, Vq.here_fslL, Vq.here_ptrL, Vq.here_nilP, Vq.V.inElem, Vq.V.inObj, List.length_append, List.length_replicate, List.length_set, List.drop_replicate, List.replicate_zero, List.append_nil, List.take_length, Nat.reduceSub, List.map_cons, List.map_nil, List.all_cons, List.all_nil, Vq.freeze1, Vq.obj1, Bool.and_true, Bool.true_and, List.flatMap_cons, List.flatMap_nil, List.append_nil, Vq.regens_by0, Vq.regens_bb, Vq.regens_zb, List.take_replicate, Nat.min_self, Nat.zero_min, List.nil_append, Vq.ofCells, Bool.false_eq_true, if_false, Vq.regens_nn, Vq.regens_g0, Vq.regens_0c, Vq.regens_c, Vq.regen1, Vq.V.nextg, Option.bind_some, Option.map_some, if_true, Vq.borrows_by, Vq.byN_app, Vq.V.sz?, Vq.lenOf, Vq.TK.fits, Vq.gThere, Vq.subV, List.map_cons, List.map_nil, List.flatMap_cons, List.flatMap_nil, ge_iff_le, gt_iff_lt, Vq.byN_len, Vq.byN_takeL, beq_self_eq_true, bne_self_eq_false, s, u]; (try (first | done | exact rfl))) | exact rfl | (simp only [Vq.rens_by, Vq.rens_c, Vq.rens_n, Vq.ren_int, Vq.ren_bool, Vq.ren_str, Vq.ren_isl, Vq.ren_xsl, Vq.ren_fsl, Vq.ren_nilS, Vq.ren_nil, Vq.ren_iptr, Vq.ren_agg, Vq.ren_tup, Vq.ren_func, Vq.zero1_by, Vq.objRen_e, Vq.mapM_c, Vq.mapM_n, Vq.ren_ptr, Vq.gTheres_by, Vq.gTh_agg, Vq.flatMap_nil', Vq.idsIn_by, Vq.idsIn_c, Vq.idsIn_n, Vq.ids_agg, Vq.ids_ptr, Vq.ids_int, Vq.ids_bool, Vq.ids_str, Vq.ids_isl, Vq.ids_xsl, Vq.ids_fsl, Vq.ids_nilS, List.nil_append, List.cons_append, List.append_nil]; done) | omega | decide | (simp [Vq.binV_shr, Vq.binV_shl, Int.natCast_nonneg, Vq.flat_by, Vq.byN_take, Vq.byN_len, Vq.here_by, Vq.here_int, Vq.here_bool, Vq.here_str, Vq.here_isl, Vq.here_xsl, Vq.here_nil, Vq.obj1_by, Vq.freeze1_by, Vq.inObj_by, Vq.inElem_by, Vq.plain_by, Vq.V.cells, Vq.here_intL, Vq.here_boolL, Vq.here_strL, Vq.here_islL, Vq.here_xslL, Vq.here_fslL, Vq.here_ptrL, Vq.here_nilP, Vq.V.inElem, Vq.V.inObj, List.length_append, List.length_replicate, List.length_set, List.drop_replicate, List.replicate_zero, List.append_nil, List.take_length, Nat.reduceSub, List.map_cons, List.map_nil, List.all_cons, List.all_nil, Vq.freeze1, Vq.obj1, Bool.and_true, Bool.true_and, ge_iff_le, gt_iff_lt, Vq.byN_len, Vq.byN_takeL, beq_self_eq_true, bne_self_eq_false, s, u]; (first | done | omega)) | (first | (simp; done) | (simp; omega))))); (all_goals (first | exact hQ.h | (refine Vq.Qe_r ?_; (first | kernel_rfl | exact rfl)) | (refine Vq.Qe_n ?_; (first | kernel_rfl | exact rfl)))))) : p := h s u ⟨hq⟩
end Go.Vq
namespace Go.Vq
end Go.Vq
namespace Go.Vq
theorem fin_own {fn : VFunc} {σ : St} {t h g sz n : Nat} {es : List V} (hr : fn.results = [.tmp t]) (hl : σ.slots.length = fn.ntmps) (ht : σ.slots[t]? = some (.srf (.slot h 0) g sz 0 n)) (hh : σ.slots[h]? = some (.xsl g sz es)) (hn : n = es.length) : finish fn 0 σ = some (.xsl 0 sz es, []) := by
  subst hn
  have htl := lt_of_getElem? ht
  have hhl := lt_of_getElem? hh
  have e1 : (σ.slots ++ [V.gone 0]).getD t (.gone 0) = .srf (.slot h 0) g sz 0 es.length := by
    rw [List.getD_eq_getElem?_getD, List.getElem?_append_left htl, ht]; rfl
  have e2 : (σ.slots ++ [V.gone 0]).getD h (.gone 0) = .xsl g sz es := by
    rw [List.getD_eq_getElem?_getD, List.getElem?_append_left hhl, hh]; rfl
  have run : (resProg fn.ntmps 0 fn.results).run { σ with slots := σ.slots ++ [.gone 0] } = some { slots := ((σ.slots ++ [V.gone 0]).set h (.gone (g + 1))).set fn.ntmps (.xsl 0 sz es), objs := σ.objs } := by
    rw [hr]
    simp only [resProg, getRess, getRes, gOpd, Prog.run, St.slot, e1, drain]
    have hx : V.hasX (.srf (.slot h 0) g sz 0 es.length) = false := rfl
    simp only [hx, Bool.false_eq_true, if_false, V.leaves, ress, res1, settle1, gHome, Prog.run, St.slot, e2, List.getElem?_cons_zero, Nat.zero_add, Nat.le_refl, and_self, if_true, List.drop_zero, List.take_length]
    simp only [sHome, Prog.run, St.slot, e2, V.leaves, List.length_singleton, Nat.lt_add_one, Nat.zero_lt_one, if_true, List.set_cons_zero, V.withLeaves, List.headD_cons, St.setS, List.flatMap_cons, List.flatMap_nil, List.append_nil, gTheres, gThere1]
  unfold finish
  rw [run]
  have e3 : St.slot { slots := ((σ.slots ++ [V.gone 0]).set h (.gone (g + 1))).set fn.ntmps (.xsl 0 sz es), objs := σ.objs } fn.ntmps = .xsl 0 sz es := by
    unfold St.slot
    rw [List.getD_eq_getElem?_getD, List.getElem?_set_self (by simp; omega)]; rfl
  simp only [e3]
  have e4 : V.objIds (.xsl 0 sz es) = [] := by simp [V.objIds]
  rw [e4]
  simp [reachV, V.ren]
theorem end_own {fn : VFunc} {σ : St} {t h g sz n : Nat} {es : List V} (hr : fn.results = [.tmp t]) (hl : σ.slots.length = fn.ntmps) (ht : σ.slots[t]? = some (.srf (.slot h 0) g sz 0 n)) (hh : σ.slots[h]? = some (.xsl g sz es)) (hn : n = es.length) : Qend fn 0 (some (.xsl 0 sz es, [])) .ret σ := Qe_r (fin_own hr hl ht hh hn)
end Go.Vq
namespace Go.Vq
end Go.Vq
namespace Go.Vq
end Go.Vq
namespace Go.Vq
end Go.Vq
namespace Go.Vq
theorem fin_own2b {fn : VFunc} {σ : St} {t1 t2 h g sz n : Nat} {k : IntKind} {x : Int} {es : List V} (hr : fn.results = [.tmp t1, .tmp t2]) (hl : σ.slots.length = fn.ntmps) (h2 : σ.slots[t2]? = some (.int k x))
    (ht : σ.slots[t1]? = some (.srf (.slot h 0) g sz 0 n)) (hh : σ.slots[h]? = some (.xsl g sz es)) (hn : n = es.length) :
    finish fn 0 σ = some (.tup [.xsl 0 sz es, .int k x], []) := by
  subst hn
  have h2l := lt_of_getElem? h2
  have htl := lt_of_getElem? ht
  have hhl := lt_of_getElem? hh
  have e0 : (σ.slots ++ [V.gone 0]).getD t2 (.gone 0) = .int k x := by
    rw [List.getD_eq_getElem?_getD, List.getElem?_append_left h2l, h2]; rfl
  have e1 : (σ.slots ++ [V.gone 0]).getD t1 (.gone 0) = .srf (.slot h 0) g sz 0 es.length := by
    rw [List.getD_eq_getElem?_getD, List.getElem?_append_left htl, ht]; rfl
  have e2 : (σ.slots ++ [V.gone 0]).getD h (.gone 0) = .xsl g sz es := by
    rw [List.getD_eq_getElem?_getD, List.getElem?_append_left hhl, hh]; rfl
  have hne : t2 ≠ h := by
    rintro rfl
    rw [h2] at hh
    cases hh
  have e0' : ((σ.slots ++ [V.gone 0]).set h (.gone (g + 1))).getD t2 (.gone 0) = .int k x := by
    rw [List.getD_eq_getElem?_getD, List.getElem?_set_ne (Ne.symm hne), ← List.getD_eq_getElem?_getD, e0]
  have hx1 : ∀ k x, V.hasX (.int k x) = false := fun _ _ => rfl
  have run : (resProg fn.ntmps 0 fn.results).run { σ with slots := σ.slots ++ [.gone 0] } = some { slots := ((σ.slots ++ [V.gone 0]).set h (.gone (g + 1))).set fn.ntmps (.tup [.xsl 0 sz es, .int k x]), objs := σ.objs } := by
    rw [hr]
    have hx : V.hasX (.srf (.slot h 0) g sz 0 es.length) = false := rfl
    simp only [resProg, getRess, getRes, gOpd, Prog.run, St.slot, e0, e1, drain, hx, hx1, Bool.false_eq_true, if_false, V.leaves, ress, res1, V.withLeaves, List.headD_cons, settle1, gHome, e2, List.getElem?_cons_zero, Nat.zero_add, Nat.le_refl, and_self, if_true, List.drop_zero, List.take_length]
    simp only [sHome, Prog.run, St.slot, e2, e0', V.leaves, List.length_singleton, Nat.lt_add_one, Nat.zero_lt_one, if_true, List.set_cons_zero, V.withLeaves, List.headD_cons, St.setS, List.flatMap_cons, List.flatMap_nil, List.append_nil, gTheres, gThere1, List.cons_append, List.nil_append, hx1, Bool.false_eq_true, if_false, ress, res1, settle1, drain]
  unfold finish
  rw [run]
  have e3 : St.slot { slots := ((σ.slots ++ [V.gone 0]).set h (.gone (g + 1))).set fn.ntmps (.tup [.xsl 0 sz es, .int k x]), objs := σ.objs } fn.ntmps = .tup [.xsl 0 sz es, .int k x] := by
    unfold St.slot
    rw [List.getD_eq_getElem?_getD, List.getElem?_set_self (by simp; omega)]; rfl
  simp only [e3]
  have e4 : V.objIds (.tup [.xsl 0 sz es, .int k x]) = [] := by simp [V.objIds, V.objIds.idsIn]
  rw [e4]
  simp [reachV, V.ren, rens]
end Go.Vq
namespace Go.Vq
theorem fin_ownO {fn : VFunc} {σ : St} {t o g sz n : Nat} {es : List V} (hr : fn.results = [.tmp t]) (hl : σ.slots.length = fn.ntmps) (ht : σ.slots[t]? = some (.srf (.obj o 0) g sz 0 n)) (hh : σ.objs[o]? = some (some (.cells [.xsl g sz es]))) (hn : n = es.length) : finish fn 0 σ = some (.xsl 0 sz es, []) := by
  subst hn
  have htl := lt_of_getElem? ht
  have hol := lt_of_getElem? hh
  have e1 : (σ.slots ++ [V.gone 0]).getD t (.gone 0) = .srf (.obj o 0) g sz 0 es.length := by
    rw [List.getD_eq_getElem?_getD, List.getElem?_append_left htl, ht]; rfl
  have e2 : σ.objs.getD o none = some (.cells [.xsl g sz es]) := by
    rw [List.getD_eq_getElem?_getD, hh]; rfl
  have run : (resProg fn.ntmps 0 fn.results).run { σ with slots := σ.slots ++ [.gone 0] } = some { slots := (σ.slots ++ [V.gone 0]).set fn.ntmps (.xsl 0 sz es), objs := σ.objs.set o (some (.cells [.gone (g + 1)])) } := by
    rw [hr]
    simp only [resProg, getRess, getRes, gOpd, Prog.run, St.slot, e1, drain]
    have hx : V.hasX (.srf (.obj o 0) g sz 0 es.length) = false := rfl
    simp only [hx, Bool.false_eq_true, if_false, V.leaves, ress, res1, settle1, gHome, Prog.run, St.obj, e2, List.getElem?_cons_zero, Nat.zero_add, Nat.le_refl, and_self, if_true, List.drop_zero, List.take_length, Nat.not_lt_zero, List.length_singleton, Nat.lt_add_one, Nat.zero_lt_one]
    simp only [sHome, Prog.run, St.obj, e2, V.leaves, List.length_singleton, Nat.lt_add_one, Nat.zero_lt_one, if_true, List.set_cons_zero, V.withLeaves, List.headD_cons, St.setO, St.setS, List.flatMap_cons, List.flatMap_nil, List.append_nil, gTheres, gThere1, hol]
  unfold finish
  rw [run]
  have e3 : St.slot { slots := (σ.slots ++ [V.gone 0]).set fn.ntmps (.xsl 0 sz es), objs := σ.objs.set o (some (.cells [.gone (g + 1)])) } fn.ntmps = .xsl 0 sz es := by
    unfold St.slot
    rw [List.getD_eq_getElem?_getD, List.getElem?_set_self (by simp; omega)]; rfl
  simp only [e3]
  have e4 : V.objIds (.xsl 0 sz es) = [] := by simp [V.objIds]
  rw [e4]
  simp [reachV, V.ren]
end Go.Vq
namespace Go.Vq
end Go.Vq
namespace Go.Vq
namespace P1
open Go
set_option maxRecDepth 1000000
theorem wrapi64 (n : Int) (h1 : -9223372036854775808 ≤ n) (h2 : n < 9223372036854775808) : IntKind.i64.wrap n = n := by
  simp only [IntKind.wrap, IntKind.bits, IntKind.signed]; simp; omega
theorem inc64 (i : Nat) (h : i < 4611686018427387904) : IntKind.i64.wrap ((i : Int) + 1) = ((i + 1 : Nat) : Int) := by
  rw [wrapi64 _ (by omega) (by omega)]; rfl
theorem cf {c : List Nat} (h : c.length = 64) : c.length = 64 ∧ List.take 64 (byN c) = byN c ∧ List.drop 64 (byN c) = [] ∧ (∀ r, List.take 64 (byN c ++ r) = byN c) ∧ (∀ r, List.drop 64 (byN c ++ r) = r) :=
  ⟨h, take_by h, drop_by h, take_byA h, drop_byA h⟩
end P1
end Go.Vq
namespace Go.Vq
namespace P1
open Go
set_option maxRecDepth 1000000
set_option maxHeartbeats 8000000
abbrev b17 : VCode := .seq (.region [⟨some 2, .assign (.val (.bool false)), none, 0⟩] false) (.seq (.region [⟨some 3, .move (.tmp 0), none, 0⟩, ⟨some 4, .bin (.geq) (.tmp 3) (.val (.int .i64 0)), none, 1⟩, ⟨some 5, .move (.tmp 4), none, 3⟩, ⟨some 6, .move (.tmp 0), some (5, true), 7⟩, ⟨some 7, .bin (.leq) (.tmp 6) (.val (.int .i64 1099511627776)), some (5, true), 15⟩, ⟨some 8, .pick (.tmp 5) (.tmp 7) (.val (.bool false)), none, 31⟩, ⟨some 2, .assign (.tmp 8), none, 63⟩] false) (.ret))
abbrev v17 : VFunc := { nparams := 1, ntmps := 9, nsites := 0, results := [.tmp 2], body := b17 }
abbrev b32 : VCode := .seq (.region [⟨some 2, .assign (.val (.bool false)), none, 0⟩] false) (.seq (.region [⟨some 3, .move (.tmp 0), none, 0⟩, ⟨some 4, .bin (.geq) (.tmp 3) (.val (.int .i64 0)), none, 1⟩, ⟨some 5, .move (.tmp 4), none, 3⟩, ⟨some 6, .move (.tmp 0), some (5, true), 7⟩, ⟨some 7, .bin (.lss) (.tmp 6) (.val (.int .i64 96)), some (5, true), 15⟩, ⟨some 8, .pick (.tmp 5) (.tmp 7) (.val (.bool false)), none, 31⟩, ⟨some 2, .assign (.tmp 8), none, 63⟩] false) (.ret))
abbrev v32 : VFunc := { nparams := 1, ntmps := 9, nsites := 0, results := [.tmp 2], body := b32 }
abbrev b25 : VCode := .seq (.region [⟨some 2, .assign (.val (.bool false)), none, 0⟩] false) (.seq (.seq (.region [⟨some 5, .move (.tmp 0), none, 0⟩, ⟨some 6, .len (.slc 1) (.tmp 5), none, 1⟩, ⟨some 7, .move (.val (.int .i64 0)), none, 0⟩] false) (.block 0 (some [0]) (.loop (some [0, 5, 6, 7]) (.seq (.region [⟨some 8, .bin (.lss) (.tmp 7) (.tmp 6), none, 0⟩] false) (.seq (.cond (.tmp 8) (.skip) (.exit 0)) (.seq (.block 1 none (.seq (.region [⟨some 9, .move (.tmp 7), none, 0⟩, ⟨some 10, .indexAddr none 1 (.tmp 5) (.tmp 7), none, 0⟩, ⟨some 11, .load false 1 (.tmp 10), none, 2⟩, ⟨some 3, .assign (.tmp 9), none, 7⟩, ⟨some 4, .assign (.tmp 11), none, 15⟩] false) (.seq (.region [⟨some 12, .move (.tmp 4), none, 0⟩, ⟨some 13, .call true 32 0 [(.tmp 12)], none, 1⟩, ⟨some 14, .un (.not) (.tmp 13), none, 3⟩, ⟨some 15, .move (.tmp 14), none, 7⟩, ⟨some 16, .move (.tmp 3), some (15, false), 15⟩, ⟨some 17, .bin (.gtr) (.tmp 16) (.val (.int .i64 0)), some (15, false), 31⟩, ⟨some 18, .move (.tmp 17), some (15, false), 63⟩, ⟨some 19, .move (.tmp 0), some (18, true), 127⟩, ⟨some 20, .move (.tmp 3), some (18, true), 127⟩, ⟨some 21, .bin (.sub) (.tmp 20) (.val (.int .i64 1)), some (18, true), 383⟩, ⟨some 22, .indexAddr none 1 (.tmp 19) (.tmp 21), some (18, true), 1023⟩, ⟨some 23, .load false 1 (.tmp 22), some (18, true), 2047⟩, ⟨some 24, .move (.tmp 4), some (18, true), 127⟩, ⟨some 25, .bin (.geq) (.tmp 23) (.tmp 24), some (18, true), 8191⟩, ⟨some 26, .pick (.tmp 18) (.tmp 25) (.val (.bool false)), some (15, false), 16383⟩, ⟨some 27, .pick (.tmp 15) (.val (.bool true)) (.tmp 26), none, 32767⟩] false) (.cond (.tmp 27) (.seq (.region [⟨some 2, .assign (.val (.bool false)), none, 0⟩] false) (.ret)) (.skip))))) (.region [⟨some 28, .bin (.add) (.tmp 7) (.val (.int .i64 1)), none, 0⟩, ⟨some 7, .move (.tmp 28), none, 1⟩] false))))))) (.seq (.region [⟨some 29, .move (.tmp 0), none, 0⟩, ⟨some 30, .len (.slc 1) (.tmp 29), none, 1⟩, ⟨some 31, .bin (.gtr) (.tmp 30) (.val (.int .i64 0)), none, 3⟩, ⟨some 2, .assign (.tmp 31), none, 7⟩] false) (.ret)))
abbrev v25 : VFunc := { nparams := 1, ntmps := 32, nsites := 0, results := [.tmp 2], body := b25 }
abbrev b15 : VCode := .seq (.region [⟨some 2, .assign (.val (.int .i64 0)), none, 0⟩, ⟨some 3, .assign (.val (.int .i64 0)), none, 1⟩] false) (.seq (.seq (.region [⟨some 4, .move (.tmp 0), none, 0⟩, ⟨some 5, .call true 17 0 [(.tmp 4)], none, 1⟩, ⟨some 6, .un (.not) (.tmp 5), none, 3⟩] false) (.cond (.tmp 6) (.seq (.region [⟨some 2, .assign (.val (.int .i64 0)), none, 0⟩, ⟨some 3, .assign (.val (.int .i64 0)), none, 1⟩] false) (.ret)) (.skip))) (.seq (.region [⟨some 7, .move (.tmp 0), none, 0⟩, ⟨some 8, .bin (.quo) (.tmp 7) (.val (.int .i64 96)), none, 1⟩, ⟨some 9, .move (.tmp 0), none, 0⟩, ⟨some 10, .bin (.rem) (.tmp 9) (.val (.int .i64 96)), none, 4⟩, ⟨some 2, .assign (.tmp 8), none, 3⟩, ⟨some 3, .assign (.tmp 10), none, 31⟩] false) (.ret)))
abbrev v15 : VFunc := { nparams := 1, ntmps := 11, nsites := 0, results := [.tmp 2, .tmp 3], body := b15 }
abbrev b27 : VCode := .seq (.region [⟨some 2, .assign (.val (.int .i64 0)), none, 0⟩, ⟨some 3, .assign (.val (.int .i64 0)), none, 1⟩] false) (.seq (.seq (.region [⟨some 4, .move (.tmp 0), none, 0⟩, ⟨some 5, .call true 17 0 [(.tmp 4)], none, 1⟩, ⟨some 6, .un (.not) (.tmp 5), none, 3⟩] false) (.cond (.tmp 6) (.seq (.region [⟨some 2, .assign (.val (.int .i64 0)), none, 0⟩, ⟨some 3, .assign (.val (.int .i64 31)), none, 1⟩] false) (.ret)) (.skip))) (.seq (.region [⟨some 7, .move (.tmp 0), none, 0⟩, ⟨some 2, .assign (.tmp 7), none, 1⟩, ⟨some 3, .assign (.val (.int .i64 0)), none, 3⟩] false) (.ret)))
abbrev v27 : VFunc := { nparams := 1, ntmps := 8, nsites := 0, results := [.tmp 2, .tmp 3], body := b27 }
abbrev b16 : VCode := .seq (.region [⟨some 2, .assign (.val (.int .i64 0)), none, 0⟩, ⟨some 3, .assign (.val (.int .i64 0)), none, 1⟩] false) (.seq (.seq (.region [⟨some 4, .move (.tmp 0), none, 0⟩, ⟨some 5, .call true 17 0 [(.tmp 4)], none, 1⟩, ⟨some 6, .un (.not) (.tmp 5), none, 3⟩] false) (.cond (.tmp 6) (.seq (.region [⟨some 2, .assign (.val (.int .i64 0)), none, 0⟩, ⟨some 3, .assign (.val (.int .i64 31)), none, 1⟩] false) (.ret)) (.skip))) (.seq (.region [⟨some 7, .move (.tmp 0), none, 0⟩, ⟨some 8, .move (.tmp 0), none, 0⟩, ⟨some 9, .bin (.rem) (.tmp 8) (.val (.int .i64 96)), none, 2⟩, ⟨some 10, .bin (.sub) (.tmp 7) (.tmp 9), none, 7⟩, ⟨some 11, .bin (.add) (.tmp 10) (.val (.int .i64 96)), none, 15⟩, ⟨some 12, .call true 27 0 [(.tmp 11)], none, 31⟩, ⟨some 13, .extract (.tmp 12) 0, none, 63⟩, ⟨some 14, .extract (.tmp 12) 1, none, 63⟩, ⟨some 2, .assign (.tmp 13), none, 255⟩, ⟨some 3, .assign (.tmp 14), none, 511⟩] false) (.ret)))
abbrev v16 : VFunc := { nparams := 1, ntmps := 15, nsites := 0, results := [.tmp 2, .tmp 3], body := b16 }
abbrev b18 : VCode := .seq (.region [⟨some 2, .assign (.val (.bool false)), none, 0⟩] false) (.seq (.region [⟨some 3, .move (.tmp 0), none, 0⟩, ⟨some 4, .bin (.leq) (.val (.int .i64 0)) (.tmp 3), none, 1⟩, ⟨some 5, .move (.tmp 4), none, 3⟩, ⟨some 6, .move (.tmp 0), some (5, true), 7⟩, ⟨some 7, .bin (.leq) (.tmp 6) (.val (.int .i64 1099511627776)), some (5, true), 15⟩, ⟨some 8, .pick (.tmp 5) (.tmp 7) (.val (.bool false)), none, 31⟩, ⟨some 2, .assign (.tmp 8), none, 63⟩] false) (.ret))
abbrev v18 : VFunc := { nparams := 1, ntmps := 9, nsites := 0, results := [.tmp 2], body := b18 }
abbrev b20 : VCode := .seq (.region [⟨some 2, .assign (.val (.bool false)), none, 0⟩] false) (.seq (.region [⟨some 3, .assign (.val (.int .i64 (-1))), none, 0⟩] false) (.seq (.seq (.region [⟨some 6, .move (.tmp 0), none, 0⟩, ⟨some 7, .len (.slc 1) (.tmp 6), none, 1⟩, ⟨some 8, .move (.val (.int .i64 0)), none, 0⟩] false) (.block 0 (some [0]) (.loop (some [0, 3, 6, 7, 8]) (.seq (.region [⟨some 9, .bin (.lss) (.tmp 8) (.tmp 7), none, 0⟩] false) (.seq (.cond (.tmp 9) (.skip) (.exit 0)) (.seq (.block 1 none (.seq (.region [⟨some 10, .indexAddr none 1 (.tmp 6) (.tmp 8), none, 0⟩, ⟨some 11, .load false 1 (.tmp 10), none, 1⟩, ⟨some 5, .assign (.tmp 11), none, 3⟩] false) (.seq (.seq (.region [⟨some 12, .move (.tmp 5), none, 0⟩, ⟨some 13, .move (.tmp 3), none, 0⟩, ⟨some 14, .bin (.leq) (.tmp 12) (.tmp 13), none, 3⟩, ⟨some 15, .move (.tmp 14), none, 7⟩, ⟨some 16, .move (.tmp 5), some (15, false), 15⟩, ⟨some 17, .bin (.gtr) (.tmp 16) (.val (.int .i64 95)), some (15, false), 31⟩, ⟨some 18, .pick (.tmp 15) (.val (.bool true)) (.tmp 17), none, 63⟩] false) (.cond (.tmp 18) (.seq (.region [⟨some 2, .assign (.val (.bool false)), none, 0⟩] false) (.ret)) (.skip))) (.region [⟨some 19, .move (.tmp 5), none, 0⟩, ⟨some 3, .assign (.tmp 19), none, 1⟩] false)))) (.region [⟨some 20, .bin (.add) (.tmp 8) (.val (.int .i64 1)), none, 0⟩, ⟨some 8, .move (.tmp 20), none, 1⟩] false))))))) (.seq (.region [⟨some 21, .move (.tmp 0), none, 0⟩, ⟨some 22, .len (.slc 1) (.tmp 21), none, 1⟩, ⟨some 23, .bin (.gtr) (.tmp 22) (.val (.int .i64 0)), none, 3⟩, ⟨some 2, .assign (.tmp 23), none, 7⟩] false) (.ret))))
abbrev v20 : VFunc := { nparams := 1, ntmps := 24, nsites := 0, results := [.tmp 2], body := b20 }
abbrev iV (l : List Int) : List V := l.map (V.int .i64)
theorem iV_len (l : List Int) : (iV l).length = l.length := by simp
theorem iV_get (l : List Int) (i : Nat) (h : i < l.length) : (iV l)[i]? = some (.int .i64 l[i]) := by simp [h]
def fitsFrom (last : Int) : List Int → Bool
  | [] => true
  | n :: l => decide (last < n) && decide (n < 96) && fitsFrom n l
def fitsD (l : List Int) : Bool := fitsFrom (-1) l && decide (0 < l.length)
def rightT (t : Int) : Bool := decide (0 ≤ t) && decide (t ≤ 1099511627776)
def lastD (l : List Int) (i : Nat) : Int := if i = 0 then -1 else l.getD (i - 1) 0
theorem lastD_succ (l : List Int) (i : Nat) (h : i < l.length) : lastD l (i + 1) = l[i] := by
  unfold lastD
  rw [if_neg (by omega), Nat.add_sub_cancel, List.getD_eq_getElem?_getD, List.getElem?_eq_getElem h]; rfl
theorem fits_step (l : List Int) (i : Nat) (h : i < l.length) : fitsFrom (lastD l i) (l.drop i) = (decide (lastD l i < l[i]) && decide (l[i] < 96) && fitsFrom (lastD l (i + 1)) (l.drop (i + 1))) := by
  rw [List.drop_eq_getElem_cons h, lastD_succ l i h]; rfl
section
variable (G : VProg)
theorem dright (hG : G 17 = some (.code v17)) (t : Int) : lim G 17 [.int .i64 t] [] = some (.bool (rightT t), []) := by
  unfold rightT
  cases b1 : decide (0 ≤ t) <;> cases b2 : decide (t ≤ 1099511627776)
  all_goals exact lim_fun hG (h := runV (And.intro b1 b2) trivial trivial)
theorem ddoor (hG : G 32 = some (.code v32)) (t : Int) : lim G 32 [.int .i64 t] [] = some (.bool (decide (0 ≤ t) && decide (t < 96)), []) := by
  cases b1 : decide (0 ≤ t) <;> cases b2 : decide (t < 96)
  all_goals exact lim_fun hG (h := runV (And.intro b1 b2) trivial trivial)
theorem rright (hG : G 18 = some (.code v18)) (t : Int) : lim G 18 [.int .i64 t] [] = some (.bool (rightT t), []) := by
  unfold rightT
  cases b1 : decide (0 ≤ t) <;> cases b2 : decide (t ≤ 1099511627776)
  all_goals exact lim_fun hG (h := runV (And.intro b1 b2) trivial trivial)
def ofT (t : Int) : Int × Int := if rightT t then (t / 96, t % 96) else (0, 0)
theorem dof (hG : G 15 = some (.code v15)) (hR : ∀ t : Int, lim G 17 [.int .i64 t] [] = some (.bool (rightT t), [])) (t : Int) : lim G 15 [.int .i64 t] [] = some (.tup [.int .i64 (ofT t).1, .int .i64 (ofT t).2], []) := by
  have t1 := hR t
  unfold ofT
  cases hr : rightT t
  · rw [hr] at t1
    simp only [Bool.false_eq_true, if_false]
    exact lim_fun hG (h := runV trivial trivial trivial)
  · rw [hr] at t1
    simp only [if_true]
    have hb : 0 ≤ t ∧ t ≤ 1099511627776 := by simpa [rightT] using hr
    have e1 : IntKind.i64.wrap (t.tdiv 96) = t / 96 := by rw [Int.tdiv_eq_ediv_of_nonneg hb.1, wrapi64 _ (by omega) (by omega)]
    have e2 : t.tmod 96 = t % 96 := Int.tmod_eq_emod_of_nonneg hb.1
    have e3 : IntKind.i64.wrap (t % 96) = t % 96 := wrapi64 _ (by omega) (by omega)
    exact lim_fun hG (h := runV (And.intro e1 (And.intro e2 e3)) trivial trivial)
theorem dtold (hG : G 27 = some (.code v27)) (hR : ∀ t : Int, lim G 17 [.int .i64 t] [] = some (.bool (rightT t), [])) (t : Int) : lim G 27 [.int .i64 t] [] = some (.tup [.int .i64 (if rightT t then t else 0), .int .i64 (if rightT t then 0 else 31)], []) := by
  have t1 := hR t
  cases hr : rightT t
  · rw [hr] at t1
    simp only [Bool.false_eq_true, if_false]
    exact lim_fun hG (h := runV trivial trivial trivial)
  · rw [hr] at t1
    simp only [if_true]
    exact lim_fun hG (h := runV trivial trivial trivial)
def SDo (l : List Int) (i : Nat) : St := ⟨(.isl 0 1 (iV l) :: .gone 0 :: .gone 0 :: .gone 0 :: .gone 0 :: .isl 0 1 (iV l) :: .int .i64 l.length :: .int .i64 i :: .gone 0 :: .gone 0 :: .gone 0 :: .gone 0 :: .gone 0 :: .gone 0 :: .gone 0 :: .gone 0 :: .gone 0 :: .gone 0 :: .gone 0 :: .gone 0 :: .gone 0 :: .gone 0 :: .gone 0 :: .gone 0 :: .gone 0 :: .gone 0 :: .gone 0 :: .gone 0 :: .gone 0 :: .gone 0 :: .gone 0 :: .gone 0 :: []), []⟩
theorem ddoors (hG : G 25 = some (.code v25)) (hD : ∀ t : Int, lim G 32 [.int .i64 t] [] = some (.bool (decide (0 ≤ t) && decide (t < 96)), [])) (l : List Int) (hl : l.length < 2 ^ 44) :
    lim G 25 [.isl 0 1 (iV l)] [] = some (.bool (fitsD l), []) := by
  refine lim_fun hG (h := runV (iV_len l) trivial ?_)
  refine WL_loop (SDo l) (fun i => i ≤ l.length ∧ -1 ≤ lastD l i ∧ fitsFrom (lastD l i) (l.drop i) = fitsFrom (-1) l) (fun i => l.length - i) ?_ 0 _ ⟨Nat.zero_le _, by simp [lastD], by simp [lastD]⟩ (by kernel_rfl)
  rintro i ⟨hi, hge, hinv⟩
  by_cases hlt : i < l.length
  · have c1 : decide ((i : Int) < (l.length : Int)) = true := by simp; omega
    have i1 := inc64 i (by omega)
    have hil : (i : Int) < (l.length : Int) := by omega
    have hg := iV_get l i hlt
    rw [fits_step l i hlt] at hinv
    have hls := lastD_succ l i hlt
    obtain ⟨x, hx⟩ : ∃ x, x = l[i] := ⟨_, rfl⟩
    rw [← hx] at hg hinv hls
    have t1 := hD x
    have F := And.intro c1 (And.intro i1 (And.intro hil (And.intro hg (iV_len l))))
    unfold SDo
    cases d1 : decide (0 ≤ x)
    case false =>
      rw [d1] at t1
      simp only [Bool.false_and] at t1
      have hf : fitsD l = false := by
        unfold fitsD
        rw [← hinv, show decide (lastD l i < x) = false by simp at d1 ⊢; omega]
        rfl
      rw [hf]
      refine runV F trivial ?_
      exact Qr_r (Qb_r (Qs_r (Qe_r (by kernel_rfl))))
    case true =>
    cases d2 : decide (x < 96)
    case false =>
      rw [d1, d2] at t1
      simp only [Bool.and_false] at t1
      have hf : fitsD l = false := by
        unfold fitsD
        rw [← hinv, d2, Bool.and_false]
        rfl
      rw [hf]
      refine runV F trivial ?_
      exact Qr_r (Qb_r (Qs_r (Qe_r (by kernel_rfl))))
    case true =>
    rw [d1, d2] at t1
    simp only [Bool.and_self] at t1
    by_cases h0 : i = 0
    · subst h0
      have c2 : decide ((0 : Int) < ((0 : Nat) : Int)) = false := by decide
      refine runV (And.intro c2 F) trivial ?_
      refine Qr_n 1 (by kernel_rfl) ⟨⟨by omega, by rw [hls]; simp at d1; omega, ?_⟩, by omega⟩
      rw [← hinv, d2]
      have : lastD l 0 = -1 := rfl
      rw [this, show decide (-1 < x) = true by simp at d1 ⊢; omega]
      rfl
    · have c2 : decide ((0 : Int) < (i : Int)) = true := by simp; omega
      have i2 : IntKind.i64.wrap ((i : Int) - 1) = ((i - 1 : Nat) : Int) := by rw [wrapi64 _ (by omega) (by omega)]; omega
      have hil2 : ((i - 1 : Nat) : Int) < (l.length : Int) := by omega
      have hg2 := iV_get l (i - 1) (by omega)
      have hl1 : lastD l i = l[i - 1] := by
        obtain ⟨k, rfl⟩ : ∃ k, i = k + 1 := ⟨i - 1, by omega⟩
        exact lastD_succ l k (by omega)
      rw [hl1] at hinv hge
      obtain ⟨y, hy⟩ : ∃ y, y = l[i - 1] := ⟨_, rfl⟩
      rw [← hy] at hg2 hinv hge
      cases d3 : decide (x ≤ y)
      · refine runV (And.intro c2 (And.intro i2 (And.intro hil2 (And.intro hg2 (And.intro d3 F))))) trivial ?_
        refine Qr_n (i + 1) (by kernel_rfl) ⟨⟨by omega, by rw [hls]; simp at d1; omega, ?_⟩, by omega⟩
        rw [← hinv, d2, show decide (y < x) = true by simp at d3 ⊢; omega]
        rfl
      · have hf : fitsD l = false := by
          unfold fitsD
          rw [← hinv, show decide (y < x) = false by simp at d3 ⊢; omega]
          rfl
        rw [hf]
        refine runV (And.intro c2 (And.intro i2 (And.intro hil2 (And.intro hg2 (And.intro d3 F))))) trivial ?_
        exact Qr_r (Qb_r (Qs_r (Qe_r (by kernel_rfl))))
  · obtain rfl : i = l.length := by omega
    have c1 : decide ((l.length : Int) < (l.length : Int)) = false := by simp
    rw [List.drop_length] at hinv
    have hf : fitsD l = decide ((0 : Int) < (l.length : Int)) := by
      unfold fitsD
      rw [← hinv]
      simp [fitsFrom]
    rw [hf]
    unfold SDo
    refine runV c1 trivial ?_
    refine Qr_x ?_
    refine Qb_x (σ1 := ⟨(.isl 0 1 (iV l) :: .gone 0 :: .gone 0 :: .gone 0 :: .gone 0 :: .gone 0 :: .gone 0 :: .gone 0 :: .gone 0 :: .gone 0 :: .gone 0 :: .gone 0 :: .gone 0 :: .gone 0 :: .gone 0 :: .gone 0 :: .gone 0 :: .gone 0 :: .gone 0 :: .gone 0 :: .gone 0 :: .gone 0 :: .gone 0 :: .gone 0 :: .gone 0 :: .gone 0 :: .gone 0 :: .gone 0 :: .gone 0 :: .gone 0 :: .gone 0 :: .gone 0 :: []), []⟩) (by kernel_rfl) ?_
    exact runV (iV_len l) trivial trivial
end
end P1
end Go.Vq
