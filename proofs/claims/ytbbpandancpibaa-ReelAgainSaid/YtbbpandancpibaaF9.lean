/- A machine of values and its tie to the model, and runs of it: part 9 of 18 (no law of Go is stated here). -/
import Derived.Test.YtbbpandancpibaaF8
import Derived.RangeFuncBox
import Derived.RangeFuncCalls
set_option linter.unusedVariables false
set_option linter.unusedSimpArgs false
set_option linter.unusedSectionVars false
namespace Go.Vq
def EnterOk (P : Program) (f : FuncId) : Prop := ∃ fn, P.funcs[f]? = some fn ∧ fn.body.isSome = true ∧ (fn.name == "runtime.NumGoroutine") = false
def CalleeOk (P : Program) (callee : Callee) : Prop := ∀ f args objs r os, callee f args objs = some (r, os) → EnterOk P f ∧ Behaves P f args objs r os
section
variable {P : Program} {n base : Nat} {E E' E2 : Env} {σ σ' : St} {hs : List V} {ts xs : List Value} {H H' H2 : Array Go.Obj}
variable {callee : Callee} {o : Oper} {a : Act} {w : World} {next : Act → World → Prop} {Q : Exit → Act → World → Prop}
theorem idsIn_append : ∀ (l m : List V), V.objIds.idsIn (l ++ m) = V.objIds.idsIn l ++ V.objIds.idsIn m
  | [], m => rfl
  | v :: l, m => by simp [V.objIds.idsIn, idsIn_append l m]
theorem idsIn_nil : ∀ {l : List V}, V.objIds.idsIn l = [] → ∀ v ∈ l, v.objIds = []
  | [], _, v, h => by cases h
  | u :: l, h0, v, h => by
    simp only [V.objIds.idsIn, List.append_eq_nil_iff] at h0
    rcases List.mem_cons.1 h with rfl | h
    · exact h0.1
    · exact idsIn_nil h0.2 v h
theorem callA_sound {f : FuncId} {first : Nat} {d : Option Nat} {as : List (Operand × TypeId)} {args : List Opd} {caps : List V} {capys : List Value} (hcallee : ∀ args objs r os, callee f args objs = some (r, os) → Behaves P f args objs r os)
    (hm : (as.mapM fun (x, t) => opd P t x) = some args) (hC : CoreS n E σ [] a.tmps.toList [] w.heap) (hcl : caps.length = capys.length) (hcap : ∀ (i : Nat) (v : V) (y : Value), caps[i]? = some v → capys[i]? = some y → RelC E σ.objs w.heap v y)
    (hr : (callP callee true f first d args caps).run σ = some σ') :
    Calls P f ((as.map fun q => a.eval q.1) ++ capys).toArray w (CallEnd n base E σ' [] a.tmps.toList [] d w) := by
  simp only [callP, if_true] at hr
  obtain ⟨vs, hr, hl, hall⟩ := presArgs_sound a hC hm hr
  rw [Prog.run_ite] at hr
  split at hr
  · rename_i hids
    split at hr
    · rename_i r hcall
      rw [Prog.run_ite] at hr
      split at hr
      · rename_i hap
        obtain ⟨_, hcalls⟩ := hcallee _ _ _ _ hcall
        rw [idsIn_append, List.append_eq_nil_iff] at hids
        have hany : ∀ (i : Nat) (v : V) (y : Value), (vs ++ caps)[i]? = some v → ((as.map fun q => a.eval q.1) ++ capys)[i]? = some y → (∀ (slots : List V) (vals : List Value) (s : Nat), SlotRel (E.apSub w.heap) slots [] vals w.heap s v y) ∧ v.refs = [] := by
          intro i v y hv hy
          have hln : vs.length = (as.map fun q => a.eval q.1).length := by simp [hl]
          rcases Nat.lt_or_ge i vs.length with hlt | hge
          · rw [List.getElem?_append_left hlt] at hv
            rw [List.getElem?_append_left (hln ▸ hlt), List.getElem?_map] at hy
            obtain ⟨q, hq, rfl⟩ := Option.map_eq_some_iff.1 hy
            have h := hall i v q hv hq
            exact ⟨fun slots vals s => h.rel slots [] vals s, h.refs⟩
          · rw [List.getElem?_append_right hge] at hv
            rw [List.getElem?_append_right (hln ▸ hge), ← hln] at hy
            have h := (hcap _ v y hv hy).mono (E' := E.apSub w.heap) (objs' := []) (H' := w.heap) (ap_c1 w.heap) (fun o ho => by rw [idsIn_nil hids.2 v (List.mem_of_getElem? hv)] at ho; cases ho)
            exact ⟨(relC_slot h).1, (relC_slot h).2.1⟩
        have hin : Core 0 (E.apSub w.heap) (vs ++ caps) (([] : List Obj).map some) ((as.map fun q => a.eval q.1) ++ capys) w.heap := by
          refine ⟨by simp [hl, hcl], Nat.zero_le _, fun s v x hv hx => (hany s v x hv hx).1 _ _ _, fun o cs h => by simp at h, fun b hb => ?_, fun s v hv q hq => ?_⟩
          · simp only [Env.apSub, hC.core.fresh b hb, apTag]
          · obtain ⟨y, hy⟩ := exists_getElem? (l := (as.map fun q => a.eval q.1) ++ capys) (i := s) (by have := lt_of_getElem? hv; simp [hl, hcl] at this ⊢; omega)
            rw [(hany s v y hv hy).2] at hq; cases hq
        refine (hcalls _ _ w hin).mono fun e w2 hret => ?_
        cases e with
        | panicked => exact hret
        | outgrown => exact hret
        | returned x =>
          obtain ⟨E2, hO, hG2, hW⟩ := hret
          obtain ⟨hC3, hG3⟩ := ap_back (base := base) hC hO hG2 hap
          obtain ⟨E5, σ5, k1, k2, _, k3⟩ := putO_sound (base := base) (hs := []) (xs := []) hC3 hr
          cases k3
          exact ⟨E5, k1, hG3.trans k2, hW⟩
      · cases hr
    · cases hr
  · cases hr
theorem callFunc_run {f : FuncId} {args : Array Value} (he : EnterOk P f) : (callFunc f args).run P w = .ok (.enter f args) w := by
  obtain ⟨fn, h1, h2, h3⟩ := he
  have h4 : fn.body.isNone = false := by cases hb : fn.body <;> simp [hb] at h2 ⊢
  simp only [callFunc, Sem.run_bind, run_program, Result.andThen_ok, h1, h3, h4]
  simp
def argTys (c : Call) : List (Operand × TypeId) := c.args.toList.zip (c.argTypes.toList ++ List.replicate c.args.size 0)
theorem argTys_fst (c : Call) : (argTys c).map (·.1) = c.args.toList := by
  unfold argTys
  rw [List.map_fst_zip]
  simp
theorem argTys_eval (c : Call) (a : Act) : ((argTys c).map fun q => a.eval q.1) = c.args.toList.map a.eval := by
  rw [← argTys_fst c, List.map_map]; rfl
theorem op_call {c : Call} {ap : Bool} {f : FuncId} {site : Nat} {args : List Opd} (hcallee : CalleeOk P callee) (ho : o.op = .call c) (hc : c.callee = .value (.func f)) (hm : ((argTys c).mapM fun (x, t) => opd P t x) = some args) (hC : CoreS n E σ [] a.tmps.toList [] w.heap)
    (hr : (opProg callee base o.dst (.call ap f site args)).run σ = some σ') (K : NextOk n base E σ' a w next) : o.upon P a next Q ((execOp a.eval o).run P w) := by
  change (callP callee ap f (base + site) o.dst args []).run σ = some σ' at hr
  have hcalls : EnterOk P f ∧ Calls P f ((argTys c).map fun q => a.eval q.1).toArray w (CallEnd n base E σ' [] a.tmps.toList [] o.dst w) := by
    have hent : (∃ args objs r os, callee f args objs = some (r, os)) → EnterOk P f := fun ⟨_, _, _, _, h⟩ => (hcallee f _ _ _ _ h).1
    cases ap with
    | true =>
      have h1 := callA_sound (base := base) (capys := []) (fun args objs r os h => (hcallee f args objs r os h).2) hm hC rfl (fun i v y h => by simp at h) hr
      rw [List.append_nil] at h1
      refine ⟨hent ?_, h1⟩
      simp only [callP, if_true] at hr
      obtain ⟨vs, hr, _⟩ := presArgs_sound a hC hm hr
      rw [Prog.run_ite] at hr
      split at hr
      · split at hr
        · exact ⟨_, _, _, _, by assumption⟩
        · cases hr
      · cases hr
    | false =>
      have h1 := callF_sound (base := base) (capys := []) (hs0 := []) (xs0 := []) (fun args objs r os h => (hcallee f args objs r os h).2) hm (Nat.le_add_right _ _) hC (fun E1 σ1 hs xs h => by simpa using h) hr
      rw [List.append_nil] at h1
      refine ⟨hent ?_, h1⟩
      simp only [callP, Bool.false_eq_true, if_false] at hr
      obtain ⟨_, _, vs, _, _, hr⟩ := lendArgs_sound (base := base) a hm hC hr
      obtain ⟨hr, _⟩ := gTheres_run hr
      obtain ⟨ids, hr⟩ := reach_run hr
      obtain ⟨os, hr, _⟩ := getObjs_run hr
      rw [Prog.run_ite] at hr
      split at hr
      · split at hr
        · split at hr
          · exact ⟨_, _, _, _, by assumption⟩
          · cases hr
        · cases hr
      · cases hr
  obtain ⟨hent, hcalls⟩ := hcalls
  have hrun : (execOp a.eval o).run P w = .ok (.enter f (c.args.map a.eval)) w := by
    simp only [execOp, ho, resolve, hc, Act.eval, Deferred.ofValue, Sem.run_bind, Sem.run_pure, Result.andThen_ok, invoke]
    rw [show (#[] ++ c.args.map a.eval ++ #[] : Array Value) = c.args.map a.eval by simp]
    exact callFunc_run hent
  rw [hrun, Oper.upon_enter]
  have harr : ((argTys c).map fun q => a.eval q.1).toArray = c.args.map a.eval := by rw [argTys_eval]; apply Array.ext'; simp
  rw [harr] at hcalls
  refine hcalls.mono fun e w2 hret => ?_
  cases e with
  | panicked => exact hret.elim
  | outgrown => exact hret.elim
  | returned x =>
    obtain ⟨E', h1, h2, h3⟩ := hret
    exact K E' _ w2 (by rw [put_toList]; exact h1) h2 h3 (put_defers _ _ _)
theorem op_callm {c : Call} {mv : Nat} {f : FuncId} {site : Nat} {args : List Opd} (hcallee : CalleeOk P callee) (ho : o.op = .call c) (hc : c.callee = .value (.func f)) (hm : ((argTys c).mapM fun (x, t) => opd P t x) = some args) (hC : CoreS n E σ [] a.tmps.toList [] w.heap)
    (hr : (opProg callee base o.dst (.callm mv f site args)).run σ = some σ') (K : NextOk n base E σ' a w next) : o.upon P a next Q ((execOp a.eval o).run P w) := by
  change (moveArgs mv args fun vs => callR callee f (base + site) o.dst vs).run σ = some σ' at hr
  have hcalls : EnterOk P f ∧ Calls P f ((argTys c).map fun q => a.eval q.1).toArray w (CallEnd n base E σ' [] a.tmps.toList [] o.dst w) := by
    have hent : (∃ args objs r os, callee f args objs = some (r, os)) → EnterOk P f := fun ⟨_, _, _, _, h⟩ => (hcallee f _ _ _ _ h).1
    obtain ⟨E1, σ1, vs, hC1, hG1, hr⟩ := moveArgs_sound (base := base) a hm hC hr
    have hl := hC1.hl
    simp only [List.nil_append] at hl
    refine ⟨hent ?_, callR_sound (hs0 := []) (xs0 := []) (fun args objs r os h => (hcallee f args objs r os h).2) (Nat.le_add_right _ _) rfl hl hC1 hG1 hr⟩
    simp only [callR] at hr
    obtain ⟨hr, _⟩ := gTheres_run hr
    obtain ⟨ids, hr⟩ := reach_run hr
    obtain ⟨os, hr, _⟩ := getObjs_run hr
    rw [Prog.run_ite] at hr
    split at hr
    · split at hr
      · split at hr
        · exact ⟨_, _, _, _, by assumption⟩
        · cases hr
      · cases hr
    · cases hr
  obtain ⟨hent, hcalls⟩ := hcalls
  have hrun : (execOp a.eval o).run P w = .ok (.enter f (c.args.map a.eval)) w := by
    simp only [execOp, ho, resolve, hc, Act.eval, Deferred.ofValue, Sem.run_bind, Sem.run_pure, Result.andThen_ok, invoke]
    rw [show (#[] ++ c.args.map a.eval ++ #[] : Array Value) = c.args.map a.eval by simp]
    exact callFunc_run hent
  rw [hrun, Oper.upon_enter]
  have harr : ((argTys c).map fun q => a.eval q.1).toArray = c.args.map a.eval := by rw [argTys_eval]; apply Array.ext'; simp
  rw [harr] at hcalls
  refine hcalls.mono fun e w2 hret => ?_
  cases e with
  | panicked => exact hret.elim
  | outgrown => exact hret.elim
  | returned x =>
    obtain ⟨E', h1, h2, h3⟩ := hret
    exact K E' _ w2 (by rw [put_toList]; exact h1) h2 h3 (put_defers _ _ _)
theorem op_callv {c : Call} {ap : Bool} {x : Operand} {x' : Opd} {site : Nat} {args : List Opd} (hcallee : CalleeOk P callee) (ho : o.op = .call c) (hc : c.callee = .value x) (hx : opd0 x = some x') (hm : ((argTys c).mapM fun (x, t) => opd P t x) = some args) (hC : CoreS n E σ [] a.tmps.toList [] w.heap)
    (hr : (opProg callee base o.dst (.callv ap x' site args)).run σ = some σ') (K : NextOk n base E σ' a w next) : o.upon P a next Q ((execOp a.eval o).run P w) := by
  obtain ⟨v, hr2, ⟨s, hS, hs'⟩, hrest⟩ := opd_rel (v := .nil) hC (opd0_ok a hx) hr
  clear hrest hs' hr
  cases v <;> first | (cases hr2; done) | skip
  rename_i f caps
  change (callP callee ap f (base + site) o.dst args caps).run σ = some σ' at hr2
  obtain ⟨_, hR⟩ := rel_leaf hS rfl (fun g => by simp)
  have hf : ∃ ys : Array Value, a.eval x = .func (.func f) #[] ys ∧ caps.length = ys.size ∧ ∀ (i : Nat) (v : V) (y : Value), caps[i]? = some v → ys[i]? = some y → RelC E σ.objs w.heap v y := by
    generalize a.eval x = y at hR
    cases hR with
    | imm _ _ h => cases h
    | func _ _ ys hn h => exact ⟨ys, rfl, hn, h⟩
  obtain ⟨ys, hev, hyl, hyr⟩ := hf
  have hent : (∃ args objs r os, callee f args objs = some (r, os)) → EnterOk P f := fun ⟨_, _, _, _, h⟩ => (hcallee f _ _ _ _ h).1
  have hcalls : EnterOk P f ∧ Calls P f (((argTys c).map fun q => a.eval q.1) ++ ys.toList).toArray w (CallEnd n base E σ' [] a.tmps.toList [] o.dst w) := by
    cases ap with
    | true =>
      have h1 := callA_sound (base := base) (capys := ys.toList) (fun args objs r os h => (hcallee f args objs r os h).2) hm hC (by simpa using hyl) (fun i v y h1 h2 => hyr i v y h1 (by simpa using h2)) hr2
      refine ⟨hent ?_, h1⟩
      simp only [callP, if_true] at hr2
      obtain ⟨vs, hr, _⟩ := presArgs_sound a hC hm hr2
      rw [Prog.run_ite] at hr
      split at hr
      · split at hr
        · exact ⟨_, _, _, _, by assumption⟩
        · cases hr
      · cases hr
    | false =>
      have hC1 : CoreS n E σ ([] ++ [.func f caps]) a.tmps.toList ([] ++ [a.eval x]) w.heap := hC.pushLeaf rfl rfl hR (by intro r hr; cases hr)
      have h1 := callF_sound (base := base) (capys := ys.toList) (caps := caps) (hs0 := [.func f caps]) (xs0 := [a.eval x]) (fun args objs r os h => (hcallee f args objs r os h).2) hm (Nat.le_add_right _ _) hC1 (fun E1 σ1 hs xs h => by
        refine h.pushCaps (by simpa using hyl) fun i v y hv hy => ?_
        have hS1 := h.core.slot n (.func f caps) (a.eval x) (by rw [List.getElem?_append_right (by rw [h.sl]; exact Nat.le_refl _), h.sl]; simp) (by rw [List.getElem?_append_right (by rw [h.tl]; exact Nat.le_refl _), h.tl]; simp)
        obtain ⟨_, hR1⟩ := rel_leaf hS1 rfl (fun g => by simp)
        rw [hev] at hR1
        cases hR1 with
        | imm _ _ h => cases h
        | func _ _ _ hn h => exact h i v y hv (by simpa using hy)) hr2
      refine ⟨hent ?_, h1.mono fun e w2 hret => ?_⟩
      · simp only [callP, Bool.false_eq_true, if_false] at hr2
        obtain ⟨_, _, vs, _, _, hr⟩ := lendArgs_sound (base := base) a hm hC hr2
        obtain ⟨hr, _⟩ := gTheres_run hr
        obtain ⟨ids, hr⟩ := reach_run hr
        obtain ⟨os, hr, _⟩ := getObjs_run hr
        rw [Prog.run_ite] at hr
        split at hr
        · split at hr
          · split at hr
            · exact ⟨_, _, _, _, by assumption⟩
            · cases hr
          · cases hr
        · cases hr
      · cases e with
        | panicked => exact hret
        | outgrown => exact hret
        | returned z =>
          obtain ⟨E', h1, h2, h3⟩ := hret
          exact ⟨E', CoreS.pop (hs := []) (xs := []) h1, h2, h3⟩
  obtain ⟨hent, hcalls⟩ := hcalls
  have hrun : (execOp a.eval o).run P w = .ok (.enter f (c.args.map a.eval ++ ys)) w := by
    simp only [execOp, ho, resolve, hc, hev, Deferred.ofValue, Sem.run_bind, Sem.run_pure, Result.andThen_ok, invoke]
    rw [show (#[] ++ c.args.map a.eval ++ ys : Array Value) = c.args.map a.eval ++ ys by simp]
    exact callFunc_run hent
  rw [hrun, Oper.upon_enter]
  have harr : (((argTys c).map fun q => a.eval q.1) ++ ys.toList).toArray = c.args.map a.eval ++ ys := by rw [argTys_eval]; apply Array.ext'; simp
  rw [harr] at hcalls
  refine hcalls.mono fun e w2 hret => ?_
  cases e with
  | panicked => exact hret.elim
  | outgrown => exact hret.elim
  | returned z =>
    obtain ⟨E', h1, h2, h3⟩ := hret
    exact K E' _ w2 (by rw [put_toList]; exact h1) h2 h3 (put_defers _ _ _)
theorem modify_set {H : Array Go.Obj} {b : Nat} {x : Go.Obj} (f : Go.Obj → Go.Obj) (h : H[b]? = some x) : H.modify b f = H.setIfInBounds b (f x) := by
  have hlt := lt_of_getElem?' h
  apply Array.ext_getElem?
  intro j
  rw [Array.getElem?_modify]
  by_cases hj : b = j
  · subst hj; rw [if_pos rfl, h, Array.getElem?_setIfInBounds_self_of_lt hlt]; rfl
  · rw [if_neg hj, Array.getElem?_setIfInBounds_ne hj]
theorem open_more {f : Nat × Nat} {m : Nat} (h : open_ f m) : open_ (if f.1 == f.2 then (m, m + 1) else (min f.1 m, max f.2 (m + 1))) m := by
  obtain ⟨h1, h2⟩ := h
  by_cases e : f.1 = f.2
  · rw [if_pos (by simpa using e)]
    exact ⟨by simp, fun i hi => by simp only; omega⟩
  · rw [if_neg (by simpa using e)]
    have h3 : m ≤ f.1 := by
      rcases Nat.lt_or_ge f.1 m with h | h
      · exact absurd ⟨Nat.le_refl _, by omega⟩ (h2 f.1 h)
      · exact h
    exact ⟨by simp only; omega, fun i hi => by simp only; omega⟩
theorem op_convLit {t t' e0 e : TypeId} {x : Operand} {x' : Opd} (ho : o.op = .convert t t' x) (h1 : under P t = some (.slice e0)) (h2 : under P t' = some (.slice e)) (h3 : under P e = some (.int .u8)) (htt : t = t') (hx : opd P t x = some x') (hC : CoreS n E σ [] a.tmps.toList [] w.heap)
    (hr : (opProg callee base o.dst (.conv .lit x')).run σ = some σ') (K : NextOk n base E σ' a w next) : o.upon P a next Q ((execOp a.eval o).run P w) := by
  have hok := opd_ok a hx
  obtain ⟨v, hr2, hv, hrf, hh1, hh2⟩ := opd_rel (v := .nil) hC hok hr
  clear hr
  have hr3 : ∃ g sz c es, v = .xsl g sz (c :: es) ∧ (drain x' (putO o.dst (.xsl 0 sz (c :: es)) .ret)).run σ = some σ' := by
    cases v <;> first | (cases hr2; done) | skip
    rename_i g sz es
    cases es with
    | nil => cases hr2
    | cons c es => exact ⟨g, sz, c, es, rfl, hr2⟩
  obtain ⟨g, sz, c, es, rfl, hr3⟩ := hr3
  obtain ⟨E1, σ1, b1, b2, _, b4⟩ := grab_sound (base := base) hC hv hrf hh1 hh2 hok hr3
  obtain ⟨_, hR⟩ := rel_leaf (hand_rel (hs := []) (xs := []) b1) rfl (fun g => by simp)
  obtain ⟨a0, cap, e1, e2, e3, e4, e5, e6⟩ := hR
  obtain ⟨ad, arr, T, f, f1, f2, f3, f4, f5⟩ := e5 (by simp only [List.length_cons] at e2; omega)
  subst f1
  simp only [List.length_nil, Nat.add_zero] at f2
  have hC0 := b1.popOwn
  have hcell : ∀ i, cellAt (w.heap.setIfInBounds ad.block (.cells arr T (if f.1 == f.2 then (arr.size, arr.size + 1) else (min f.1 arr.size, max f.2 (arr.size + 1))))) ad.block i = cellAt w.heap ad.block i := by
    intro i; simp only [cellAt, Array.getElem?_setIfInBounds_self_of_lt (lt_of_getElem?' f3), f3]
  obtain ⟨hC1, hG1⟩ := hC0.changeHand (base := base) (tail := false) (m := 0) (τ := .home (.slot n 0)) (x := .cells arr T (if f.1 == f.2 then (arr.size, arr.size + 1) else (min f.1 arr.size, max f.2 (arr.size + 1)))) f2 (lt_of_getElem?' f3) (fun i hi => by simp [Env.imm, f2] at hi)
  rw [setTag_self f2] at hC1 hG1
  have hO : OwnRel false E1 (w.heap.setIfInBounds ad.block (.cells arr T (if f.1 == f.2 then (arr.size, arr.size + 1) else (min f.1 arr.size, max f.2 (arr.size + 1))))) (.slot n 0) sz (c :: es) (some ad) cap := by
    refine ⟨e2, e3, e4, fun _ => ⟨ad, arr, T, _, rfl, f2, Array.getElem?_setIfInBounds_self_of_lt (lt_of_getElem?' f3), f4, open_more f5⟩, e6.1, fun i e j v hi hj => ?_⟩
    obtain ⟨ad', y, g1, g2, g3⟩ := e6.2 i e j v hi hj
    cases g1
    exact ⟨ad, y, rfl, by rw [hcell]; exact g2, g3.mono hG1.imm⟩
  have hend := CoreS.pushOwn (g := 0) hC1 hO
  rw [← e1] at hend
  refine value_end (w1 := { w with heap := w.heap.setIfInBounds ad.block (.cells arr T (if f.1 == f.2 then (arr.size, arr.size + 1) else (min f.1 arr.size, max f.2 (arr.size + 1)))) }) hend (b2.trans hG1) ⟨rfl, rfl, rfl⟩ b4 K ?_
  have hsh : w.shape? ad.block = some (T, arr.size) := by simp only [World.shape?, f3]
  have hfz : w.freeze ⟨ad.block, arr.size, none⟩ 1 = { w with heap := w.heap.setIfInBounds ad.block (.cells arr T (if f.1 == f.2 then (arr.size, arr.size + 1) else (min f.1 arr.size, max f.2 (arr.size + 1)))) } := by
    simp only [World.freeze]
    rw [if_neg (by omega), modify_set _ f3]
  subst htt
  have hee : e0 = e := by rw [h1] at h2; cases h2; rfl
  subst hee
  have hmark : (markStringish ad).run P w = .ok () { w with heap := w.heap.setIfInBounds ad.block (.cells arr T (if f.1 == f.2 then (arr.size, arr.size + 1) else (min f.1 arr.size, max f.2 (arr.size + 1)))) } := by
    simp only [markStringish, Sem.run_bind, run_shape, hsh, Result.andThen_ok, run_freeze, hfz]
  simp only [execOp, ho, convert, Sem.run_bind, run_under h1, run_under h2, run_under h3, Result.andThen_ok, e1, beq_self_eq_true, hmark, Sem.run_pure]
end
end Go.Vq
namespace Go.Vq
theorem strip_inv {vo v : VOp} (h : v = vo.strip) : vo = v ∨ (∃ ap f s as, vo = .call ap f s as ∧ v = .call false f s as) ∨ (∃ ap x s as, vo = .callv ap x s as ∧ v = .callv false x s as) ∨ (∃ o n x, vo = .ibox o n x ∧ v = .box o n x) ∨ (∃ mv f s as, vo = .callm mv f s as ∧ v = .call false f s as) := by
  cases vo <;> first
    | exact .inl h.symm
    | exact .inr (.inl ⟨_, _, _, _, rfl, h⟩)
    | exact .inr (.inr (.inl ⟨_, _, _, _, rfl, h⟩))
    | exact .inr (.inr (.inr (.inl ⟨_, _, _, rfl, h⟩)))
    | exact .inr (.inr (.inr (.inr ⟨_, _, _, _, rfl, h⟩)))
section
variable {P : Program} {n base : Nat} {E E' E2 : Env} {σ σ' : St} {hs : List V} {ts xs : List Value} {H H' H2 : Array Go.Obj}
variable {callee : Callee} {o : Oper} {a : Act} {w : World} {next : Act → World → Prop} {Q : Exit → Act → World → Prop}
theorem strip_plain {vo v : VOp} (h : v = vo.strip) (h1 : ∀ ap f s as, v ≠ .call ap f s as) (h2 : ∀ ap x s as, v ≠ .callv ap x s as) (h3 : ∀ o n x, v ≠ .box o n x := by simp) : vo = v := by
  rcases strip_inv h with h | ⟨_, _, _, _, _, h⟩ | ⟨_, _, _, _, _, h⟩ | ⟨_, _, _, _, h⟩ | ⟨_, _, _, _, _, h⟩
  · exact h
  · exact absurd h (h1 _ _ _ _)
  · exact absurd h (h2 _ _ _ _)
  · exact absurd h (h3 _ _ _)
  · exact absurd h (h1 _ _ _ _)
theorem op_ibox {t : TypeId} {s m : Nat} {x : Operand} {x' : Opd} (ho : o.op = .box t x) (hx : opd P t x = some x') (hC : CoreS n E σ [] a.tmps.toList [] w.heap)
    (hr : (opProg callee base o.dst (.ibox s m x')).run σ = some σ') (K : NextOk n base E σ' a w next) : o.upon P a next Q ((execOp a.eval o).run P w) := by
  change (gImm x' fun v => if v.here = true ∧ v.cells.length = m then putO o.dst (.iptr v.cells) .ret else .fail).run σ = some σ' at hr
  obtain ⟨E1, σ1, v, hC1, hG1, _, hr, hI⟩ := gImm_sound (base := base) hC (opd_ok a hx) hr
  rw [Prog.run_ite] at hr
  split at hr
  · rename_i hv
    obtain ⟨e1, e2, e3⟩ := here_cells (hI.slotRel (s := 0) (slots := []) (objs := []) (vals := [])) hv.1
    have hC2 : CoreS n (E1.setTag w.heap.size .imm) σ1 [] a.tmps.toList [] (w.heap.push (.cells (a.eval x).cells t (0, 0))) := ⟨hC1.sl, hC1.tl, hC1.core.addBlock _ _⟩
    have hG2 := Grow.newBlock (base := base) (τ := .imm) (x := .cells (a.eval x).cells t (0, 0)) hC1.core.fresh
    refine value_end (w1 := { w with heap := w.heap.push (.cells (a.eval x).cells t (0, 0)) }) (hC2.pushLeaf (h := .slot 0 0) (v := .iptr v.cells) (x := .pointer (some ⟨w.heap.size, 0, none⟩)) rfl rfl ⟨_, rfl, rfl, fun j u hj => ?_⟩ (by intro r hr; cases hr)) (hG1.trans hG2) ⟨rfl, rfl, rfl⟩ hr K ?_
    · rw [e1] at hj
      obtain ⟨y, hy⟩ : ∃ y, (a.eval x).cells[j]? = some y := by
        have : j < (a.eval x).cells.size := by rw [e3]; exact lt_of_getElem? hj
        exact ⟨_, Array.getElem?_eq_getElem this⟩
      refine ⟨(inElem_leaf (hI.elem u (List.mem_of_getElem? hj))).1, y, ?_, ?_, ?_⟩
      · simp only [Env.imm, setTag_same]
      · simp only [cellAt, Array.getElem?_push_size, Nat.zero_add]; exact hy
      · refine (hI.cells j u y hj ?_).mono fun b i hi => hG2.imm b i hi
        rw [← e2]; simpa using hy
    · simp [execOp, ho, Instr.box, newVar, newRow]
  · cases hr
theorem op_sound {v0 vo : VOp} {site : Nat} (hcallee : CalleeOk P callee) (hc : cOp P o site = some v0) (hs : v0.strip = vo.strip) (hC : CoreS n E σ [] a.tmps.toList [] w.heap)
    (hr : (opProg callee base o.dst vo).run σ = some σ') (K : NextOk n base E σ' a w next) : o.upon P a next Q ((execOp a.eval o).run P w) := by
  have hp : ∀ {v : VOp}, some v = some v0 → (∀ ap f s as, v ≠ .call ap f s as) → (∀ ap x s as, v ≠ .callv ap x s as) → (h3 : ∀ o n x, v ≠ .box o n x := by simp) → (h4 : ∀ o n x, v ≠ .ibox o n x := by simp) → (h5 : ∀ mv f s as, v ≠ .callm mv f s as := by simp) → vo = v := fun {v} h h1 h2 h3 h4 h5 => by
    have e := Option.some.inj h
    subst e
    have e2 : v.strip = v := by cases v <;> first | rfl | exact absurd rfl (h1 _ _ _ _) | exact absurd rfl (h2 _ _ _ _) | exact absurd rfl (h4 _ _ _) | exact absurd rfl (h5 _ _ _ _)
    exact strip_plain (e2.symm.trans hs) h1 h2 h3
  cases hop : o.op <;> simp only [cOp, hop, Option.bind_eq_bind, Option.pure_def, reduceCtorEq] at hc
  case move x =>
    obtain ⟨x', hx, hc⟩ := Option.bind_eq_some_iff.1 hc
    cases hp hc (by simp) (by simp)
    exact op_move hop hx hC hr K
  case assign x =>
    obtain ⟨x', hx, hc⟩ := Option.bind_eq_some_iff.1 hc
    cases hp hc (by simp) (by simp)
    exact op_assign hop hx hC hr K
  case pick c x y =>
    obtain ⟨c', hc', hc⟩ := Option.bind_eq_some_iff.1 hc
    obtain ⟨x', hx, hc⟩ := Option.bind_eq_some_iff.1 hc
    obtain ⟨y', hy, hc⟩ := Option.bind_eq_some_iff.1 hc
    cases hp hc (by simp) (by simp)
    exact op_pick hop hc' hx hy hC hr K
  case alloc t =>
    obtain ⟨zs, hz, hc⟩ := Option.bind_eq_some_iff.1 hc
    cases hp hc (by simp) (by simp)
    exact op_alloc hop hz hC hr K
  case box t x =>
    obtain ⟨m, hm, hc⟩ := Option.bind_eq_some_iff.1 hc
    obtain ⟨x', hx, hc⟩ := Option.bind_eq_some_iff.1 hc
    cases hc
    rcases strip_inv (show VOp.box site m x' = vo.strip from hs) with rfl | ⟨_, _, _, _, _, e⟩ | ⟨_, _, _, _, _, e⟩ | ⟨_, _, _, rfl, e⟩ | ⟨_, _, _, _, _, e⟩
    · exact op_box hop hx hC hr K
    · cases e
    · cases e
    · cases e; exact op_ibox hop hx hC hr K
    · cases e
  case build t ps =>
    obtain ⟨zs, hz, hc⟩ := Option.bind_eq_some_iff.1 hc
    obtain ⟨d, hd, hc⟩ := Option.bind_eq_some_iff.1 hc
    split at hc
    · rename_i fs
      obtain ⟨pl, hpl, hc⟩ := Option.bind_eq_some_iff.1 hc
      obtain ⟨parts, hparts, hc⟩ := Option.bind_eq_some_iff.1 hc
      cases hp hc (by simp) (by simp)
      exact op_build hop hz (.inl ⟨fs, pl, hd, hpl, hparts⟩) hC hr K
    · rename_i len e
      obtain ⟨m, hm, hc⟩ := Option.bind_eq_some_iff.1 hc
      obtain ⟨parts, hparts, hc⟩ := Option.bind_eq_some_iff.1 hc
      cases hp hc (by simp) (by simp)
      exact op_build hop hz (.inr ⟨len, e, m, hd, hm, hparts⟩) hC hr K
    · cases hc
  case buildSlice t len ps =>
    obtain ⟨d, hd, hc⟩ := Option.bind_eq_some_iff.1 hc
    split at hc
    · rename_i e
      obtain ⟨sz, hsz, hc⟩ := Option.bind_eq_some_iff.1 hc
      obtain ⟨zs, hz, hc⟩ := Option.bind_eq_some_iff.1 hc
      obtain ⟨agg, hagg, hc⟩ := Option.bind_eq_some_iff.1 hc
      obtain ⟨z0, hz0, hc⟩ := Option.bind_eq_some_iff.1 hc
      split at hc
      · cases hc
      · rename_i hcnd
        simp only [not_or] at hcnd
        obtain ⟨parts, hparts, hc⟩ := Option.bind_eq_some_iff.1 hc
        cases hp hc (by simp) (by simp)
        exact op_buildSlice hop hd hsz hz (Classical.byContradiction fun h => hcnd.2.2 h) hcnd.1 hcnd.2.1 hz0 hparts hC hr K
    · cases hc
  case load t p =>
    obtain ⟨agg, hagg, hc⟩ := Option.bind_eq_some_iff.1 hc
    obtain ⟨m, hm, hc⟩ := Option.bind_eq_some_iff.1 hc
    obtain ⟨p', hp', hc⟩ := Option.bind_eq_some_iff.1 hc
    cases hp hc (by simp) (by simp)
    exact op_load hop hagg hm hp' hC hr K
  case store t p x =>
    split at hc
    · cases hc
    · rename_i hd
      obtain ⟨m, hm, hc⟩ := Option.bind_eq_some_iff.1 hc
      obtain ⟨p', hp', hc⟩ := Option.bind_eq_some_iff.1 hc
      obtain ⟨x', hx', hc⟩ := Option.bind_eq_some_iff.1 hc
      cases hp hc (by simp) (by simp)
      exact op_store hop hm hp' hx' (by cases h : o.dst <;> simp [h] at hd ⊢) hC hr K
  case nilCheck x =>
    obtain ⟨x', hx, hc⟩ := Option.bind_eq_some_iff.1 hc
    cases hp hc (by simp) (by simp)
    exact op_nilCheck hop hx hC hr K
  case binOp op t x y t' =>
    have hbin : ∀ {x' y' : Opd}, op ≠ .eql ∧ op ≠ .neq → opd0 x = some x' → opd0 y = some y' → vo = .bin op x' y' → o.upon P a next Q ((execOp a.eval o).run P w) := by
      intro x' y' h1 h2 h3 h4
      subst h4
      exact op_bin hop h1 h2 h3 hC hr K
    split at hc
    · obtain ⟨k, hk, hc⟩ := Option.bind_eq_some_iff.1 hc
      obtain ⟨x', hx, hc⟩ := Option.bind_eq_some_iff.1 hc
      obtain ⟨y', hy, hc⟩ := Option.bind_eq_some_iff.1 hc
      cases hp hc (by simp) (by simp)
      exact op_eq (neg := false) hop hk hx hy hC hr K
    · obtain ⟨k, hk, hc⟩ := Option.bind_eq_some_iff.1 hc
      obtain ⟨x', hx, hc⟩ := Option.bind_eq_some_iff.1 hc
      obtain ⟨y', hy, hc⟩ := Option.bind_eq_some_iff.1 hc
      cases hp hc (by simp) (by simp)
      exact op_eq (neg := true) hop hk hx hy hC hr K
    · rename_i h1 h2
      obtain ⟨x', hx, hc⟩ := Option.bind_eq_some_iff.1 hc
      obtain ⟨y', hy, hc⟩ := Option.bind_eq_some_iff.1 hc
      exact hbin ⟨fun e => h1 e, fun e => h2 e⟩ hx hy (hp hc (by simp) (by simp))
  case unOp op t x =>
    obtain ⟨x', hx, hc⟩ := Option.bind_eq_some_iff.1 hc
    cases hp hc (by simp) (by simp)
    exact op_un hop hx hC hr K
  case convert s d x =>
    obtain ⟨ds, hds, hc⟩ := Option.bind_eq_some_iff.1 hc
    obtain ⟨dd, hdd, hc⟩ := Option.bind_eq_some_iff.1 hc
    split at hc
    · obtain ⟨x', hx, hc⟩ := Option.bind_eq_some_iff.1 hc
      cases hp hc (by simp) (by simp)
      exact op_convInt hop hds hdd hx hC hr K
    · obtain ⟨x', hx, hc⟩ := Option.bind_eq_some_iff.1 hc
      cases hp hc (by simp) (by simp)
      exact op_convSame hop hds hdd hx hC hr K
    · obtain ⟨x', hx, hc⟩ := Option.bind_eq_some_iff.1 hc
      cases hp hc (by simp) (by simp)
      exact op_convRune hop hds hdd hx hC hr K
    · obtain ⟨de, hde, hc⟩ := Option.bind_eq_some_iff.1 hc
      split at hc
      · obtain ⟨x', hx, hc⟩ := Option.bind_eq_some_iff.1 hc
        cases hp hc (by simp) (by simp)
        exact op_convBytes hop hds hdd hde hx hC hr K
      · cases hc
    · obtain ⟨de, hde, hc⟩ := Option.bind_eq_some_iff.1 hc
      split at hc
      · obtain ⟨x', hx, hc⟩ := Option.bind_eq_some_iff.1 hc
        cases hp hc (by simp) (by simp)
        exact op_convText hop hds hdd hde hx hC hr K
      · cases hc
    · obtain ⟨de, hde, hc⟩ := Option.bind_eq_some_iff.1 hc
      split at hc
      · split at hc
        · rename_i htt
          obtain ⟨x', hx, hc⟩ := Option.bind_eq_some_iff.1 hc
          cases hp hc (by simp) (by simp)
          exact op_convLit hop hds hdd hde htt hx hC hr K
        · cases hc
      · cases hc
    · cases hc
  case makeInterface t x =>
    obtain ⟨d, hd, hc⟩ := Option.bind_eq_some_iff.1 hc
    split at hc
    · cases hc
    · rename_i hni
      obtain ⟨x', hx, hc⟩ := Option.bind_eq_some_iff.1 hc
      cases hp hc (by simp) (by simp)
      exact op_iface hop ⟨d, hd, fun ms e => hni ms e⟩ hx hC hr K
  case makeFunc fn first caps =>
    cases fn <;> simp only [reduceCtorEq] at hc
    rename_i f
    split at hc
    · rename_i hf
      obtain ⟨cs, hcs, hc⟩ := Option.bind_eq_some_iff.1 hc
      cases hp hc (by simp) (by simp)
      exact op_makeFunc hop (by simpa using hf) hcs hC hr K
    · cases hc
  case makeSlice t l c =>
    obtain ⟨d, hd, hc⟩ := Option.bind_eq_some_iff.1 hc
    split at hc
    · rename_i e
      obtain ⟨sz, hsz, hc⟩ := Option.bind_eq_some_iff.1 hc
      obtain ⟨zs, hz, hc⟩ := Option.bind_eq_some_iff.1 hc
      split at hc
      · cases hc
      · rename_i hcnd
        simp only [not_or] at hcnd
        obtain ⟨bytes, hb, hc⟩ := Option.bind_eq_some_iff.1 hc
        obtain ⟨agg, hagg, hc⟩ := Option.bind_eq_some_iff.1 hc
        obtain ⟨z0, hz0, hc⟩ := Option.bind_eq_some_iff.1 hc
        obtain ⟨l', hl', hc⟩ := Option.bind_eq_some_iff.1 hc
        obtain ⟨c', hc', hc⟩ := Option.bind_eq_some_iff.1 hc
        cases hp hc (by simp) (by simp)
        exact op_makeSlice hop hd hsz hb hz (Classical.byContradiction fun h => hcnd.2 h) hcnd.1 hz0 hl' hc' hC hr K
    · cases hc
  case slice t x lo hi mx =>
    obtain ⟨d, hd, hc⟩ := Option.bind_eq_some_iff.1 hc
    split at hc
    · rename_i len e
      obtain ⟨m, hm, hc⟩ := Option.bind_eq_some_iff.1 hc
      split at hc
      · rename_i hcnd
        obtain ⟨x', hx, hc⟩ := Option.bind_eq_some_iff.1 hc
        obtain ⟨lo', hlo, hc⟩ := Option.bind_eq_some_iff.1 hc
        obtain ⟨hi', hhi, hc⟩ := Option.bind_eq_some_iff.1 hc
        cases hp hc (by simp) (by simp)
        obtain ⟨rfl, hmx⟩ := hcnd
        have : mx = none := by cases mx <;> simp at hmx ⊢
        subst this
        exact op_sliceArr hop hd hm hx hlo hhi hC hr K
      · cases hc
    · rename_i e
      split at hc
      · cases hc
      · rename_i hcnd
        obtain ⟨sz, hsz, hc⟩ := Option.bind_eq_some_iff.1 hc
        obtain ⟨x', hx, hc⟩ := Option.bind_eq_some_iff.1 hc
        obtain ⟨lo', hlo, hc⟩ := Option.bind_eq_some_iff.1 hc
        obtain ⟨hi', hhi, hc⟩ := Option.bind_eq_some_iff.1 hc
        obtain ⟨mx', hmx, hc⟩ := Option.bind_eq_some_iff.1 hc
        cases hp hc (by simp) (by simp)
        exact op_sliceSlc hop hd hsz hx hlo hhi hmx (fun h => by subst h; cases mx <;> simp at hcnd ⊢) hC hr K
    · split at hc
      · cases hc
      · rename_i hcnd
        obtain ⟨x', hx, hc⟩ := Option.bind_eq_some_iff.1 hc
        obtain ⟨lo', hlo, hc⟩ := Option.bind_eq_some_iff.1 hc
        obtain ⟨hi', hhi, hc⟩ := Option.bind_eq_some_iff.1 hc
        cases hp hc (by simp) (by simp)
        have : mx = none := by cases mx <;> simp at hcnd ⊢
        subst this
        exact op_sliceStr hop hd hx hlo hhi hC hr K
    · cases hc
  case fieldAddr t x i =>
    obtain ⟨d, hd, hc⟩ := Option.bind_eq_some_iff.1 hc
    split at hc
    · rename_i fs
      obtain ⟨f, hf, hc⟩ := Option.bind_eq_some_iff.1 hc
      obtain ⟨m, hm, hc⟩ := Option.bind_eq_some_iff.1 hc
      split at hc
      · cases hc
      · rename_i hm0
        obtain ⟨x', hx, hc⟩ := Option.bind_eq_some_iff.1 hc
        cases hp hc (by simp) (by simp)
        exact op_fieldAddr hop hd hf hm hm0 hx hC hr K
    · cases hc
  case field t x i =>
    obtain ⟨d, hd, hc⟩ := Option.bind_eq_some_iff.1 hc
    split at hc
    · rename_i fs
      obtain ⟨f, hf, hc⟩ := Option.bind_eq_some_iff.1 hc
      obtain ⟨m, hm, hc⟩ := Option.bind_eq_some_iff.1 hc
      obtain ⟨agg, hagg, hc⟩ := Option.bind_eq_some_iff.1 hc
      obtain ⟨x', hx, hc⟩ := Option.bind_eq_some_iff.1 hc
      cases hp hc (by simp) (by simp)
      exact op_field hop hd hf hm hagg hx hC hr K
    · cases hc
  case indexAddr t x i =>
    obtain ⟨d, hd, hc⟩ := Option.bind_eq_some_iff.1 hc
    split at hc
    · rename_i len e
      obtain ⟨m, hm, hc⟩ := Option.bind_eq_some_iff.1 hc
      obtain ⟨x', hx, hc⟩ := Option.bind_eq_some_iff.1 hc
      obtain ⟨i', hi, hc⟩ := Option.bind_eq_some_iff.1 hc
      cases hp hc (by simp) (by simp)
      exact op_indexAddrArr hop hd hm hx hi hC hr K
    · rename_i e
      obtain ⟨m, hm, hc⟩ := Option.bind_eq_some_iff.1 hc
      split at hc
      · cases hc
      · obtain ⟨m2, hm2, hc⟩ := Option.bind_eq_some_iff.1 hc
        obtain ⟨x', hx, hc⟩ := Option.bind_eq_some_iff.1 hc
        obtain ⟨i', hi, hc⟩ := Option.bind_eq_some_iff.1 hc
        cases hp hc (by simp) (by simp)
        exact op_indexAddr hop hd hm2 hx hi hC hr K
    · cases hc
  case index t x i =>
    obtain ⟨d, hd, hc⟩ := Option.bind_eq_some_iff.1 hc
    split at hc
    · rename_i len e
      obtain ⟨m, hm, hc⟩ := Option.bind_eq_some_iff.1 hc
      obtain ⟨agg, hagg, hc⟩ := Option.bind_eq_some_iff.1 hc
      obtain ⟨x', hx, hc⟩ := Option.bind_eq_some_iff.1 hc
      obtain ⟨i', hi, hc⟩ := Option.bind_eq_some_iff.1 hc
      cases hp hc (by simp) (by simp)
      exact op_indexArr hop hd hm hagg hx hi hC hr K
    · obtain ⟨x', hx, hc⟩ := Option.bind_eq_some_iff.1 hc
      obtain ⟨i', hi, hc⟩ := Option.bind_eq_some_iff.1 hc
      cases hp hc (by simp) (by simp)
      exact op_indexStr hop hd hx hi hC hr K
    · cases hc
  case extract x i =>
    obtain ⟨x', hx, hc⟩ := Option.bind_eq_some_iff.1 hc
    cases hp hc (by simp) (by simp)
    exact op_extract hop hx hC hr K
  case call c =>
    obtain ⟨cl, args, argTypes⟩ := c
    cases cl with
    | invoke recv name => simp only [reduceCtorEq] at hc
    | value x =>
      by_cases hx : ∃ f, x = .func f
      · obtain ⟨f, rfl⟩ := hx
        simp only [Option.bind_eq_bind, Option.pure_def] at hc
        obtain ⟨as, has, hc⟩ := Option.bind_eq_some_iff.1 hc
        cases hc
        rcases strip_inv (show VOp.call false f site as = vo.strip from hs) with rfl | ⟨ap, f', s', as', rfl, e⟩ | ⟨_, _, _, _, _, e⟩ | ⟨_, _, _, _, e⟩ | ⟨mv, f', s', as', rfl, e⟩
        · exact op_call hcallee hop rfl has hC hr K
        · cases e; exact op_call hcallee hop rfl has hC hr K
        · cases e
        · cases e
        · cases e; exact op_callm hcallee hop rfl has hC hr K
      · have hc' : (do pure (.callv false (← opd0 x) site (← (args.toList.zip (argTypes.toList ++ List.replicate args.size 0)).mapM fun (x, t) => opd P t x)) : Option VOp) = some v0 := by
          cases x <;> first | exact absurd ⟨_, rfl⟩ hx | exact hc
        simp only [Option.bind_eq_bind, Option.pure_def] at hc'
        obtain ⟨x', hx', hc'⟩ := Option.bind_eq_some_iff.1 hc'
        obtain ⟨as, has, hc'⟩ := Option.bind_eq_some_iff.1 hc'
        cases hc'
        rcases strip_inv (show VOp.callv false x' site as = vo.strip from hs) with rfl | ⟨_, _, _, _, _, e⟩ | ⟨ap, y', s', as', rfl, e⟩ | ⟨_, _, _, _, e⟩ | ⟨_, _, _, _, _, e⟩
        · exact op_callv hcallee hop rfl hx' has hC hr K
        · cases e
        · cases e; exact op_callv hcallee hop rfl hx' has hC hr K
        · cases e
        · cases e
    | builtin b =>
      simp only [Option.bind_eq_bind, Option.pure_def] at hc
      have hargs : ∀ l, args.toList = l → args = l.toArray := fun l h => by rw [← h]
      have htys : ∀ l, argTypes.toList = l → argTypes = l.toArray := fun l h => by rw [← h]
      split at hc
      · rename_i x t hx ht
        obtain ⟨d, hd, hc⟩ := Option.bind_eq_some_iff.1 hc
        split at hc
        · rename_i m e
          cases hp hc (by simp) (by simp)
          exact op_lenArr hop rfl (hargs _ hx) (htys _ ht) (.inl ⟨e, hd⟩) hC hr K
        · rename_i p
          obtain ⟨d2, hd2, hc⟩ := Option.bind_eq_some_iff.1 hc
          split at hc
          · rename_i m e
            cases hp hc (by simp) (by simp)
            exact op_lenArr hop rfl (hargs _ hx) (htys _ ht) (.inr ⟨p, e, hd, hd2⟩) hC hr K
          · cases hc
        · obtain ⟨x', hx', hc⟩ := Option.bind_eq_some_iff.1 hc
          cases hp hc (by simp) (by simp)
          exact op_len hop rfl (hargs _ hx) (htys _ ht) (.inl ⟨rfl, hd⟩) hx' hC hr K
        · rename_i e
          obtain ⟨sz, hsz, hc⟩ := Option.bind_eq_some_iff.1 hc
          obtain ⟨x', hx', hc⟩ := Option.bind_eq_some_iff.1 hc
          cases hp hc (by simp) (by simp)
          exact op_len hop rfl (hargs _ hx) (htys _ ht) (.inr (.inl ⟨sz, e, rfl, hd⟩)) hx' hC hr K
        · rename_i k e
          obtain ⟨x', hx', hc⟩ := Option.bind_eq_some_iff.1 hc
          cases hp hc (by simp) (by simp)
          exact op_len hop rfl (hargs _ hx) (htys _ ht) (.inr (.inr ⟨k, e, rfl, hd⟩)) hx' hC hr K
        · cases hc
      · rename_i x t hx ht
        obtain ⟨d, hd, hc⟩ := Option.bind_eq_some_iff.1 hc
        split at hc
        · rename_i e
          obtain ⟨x', hx', hc⟩ := Option.bind_eq_some_iff.1 hc
          cases hp hc (by simp) (by simp)
          exact op_cap hop rfl (hargs _ hx) (htys _ ht) hd hx' hC hr K
        · cases hc
      · rename_i s x t u hx ht
        obtain ⟨d, hd, hc⟩ := Option.bind_eq_some_iff.1 hc
        obtain ⟨d2, hd2, hc⟩ := Option.bind_eq_some_iff.1 hc
        split at hc
        · rename_i ki
          split at hc
          · rename_i e
            obtain ⟨sz, hsz, hc⟩ := Option.bind_eq_some_iff.1 hc
            obtain ⟨bytes, hb, hc⟩ := Option.bind_eq_some_iff.1 hc
            obtain ⟨zs, hz, hc⟩ := Option.bind_eq_some_iff.1 hc
            obtain ⟨agg, hag, hc⟩ := Option.bind_eq_some_iff.1 hc
            obtain ⟨zero, hze, hc⟩ := Option.bind_eq_some_iff.1 hc
            split at hc
            · cases hc
            · rename_i hcnd
              simp only [not_or] at hcnd
              obtain ⟨s', hs', hc⟩ := Option.bind_eq_some_iff.1 hc
              obtain ⟨x', hx', hc⟩ := Option.bind_eq_some_iff.1 hc
              cases hp hc (by simp) (by simp)
              exact op_appendZ hop rfl (hargs _ hx) (htys _ ht) hd hd2 hsz hb hz (Classical.byContradiction fun h => hcnd.2.2 h) hcnd.1 hcnd.2.1 hze hs' hx' hC hr K
          · cases hc
        · rename_i e hni
          obtain ⟨sz, hsz, hc⟩ := Option.bind_eq_some_iff.1 hc
          obtain ⟨bytes, hb, hc⟩ := Option.bind_eq_some_iff.1 hc
          obtain ⟨zs, hz, hc⟩ := Option.bind_eq_some_iff.1 hc
          split at hc
          · cases hc
          · rename_i hcnd
            simp only [not_or] at hcnd
            obtain ⟨s', hs', hc⟩ := Option.bind_eq_some_iff.1 hc
            obtain ⟨x', hx', hc⟩ := Option.bind_eq_some_iff.1 hc
            cases hp hc (by simp) (by simp)
            exact op_append hop rfl (hargs _ hx) (htys _ ht) ⟨hd, ⟨d2, hd2, fun k e => by subst e; exact hni _ rfl⟩, hsz, hb, ⟨zs, hz, Classical.byContradiction fun h => hcnd.2.2 h⟩, hcnd.1, hcnd.2.1⟩ hs' hx' hC hr K
        · cases hc
      · rename_i d0 s t u hx ht
        obtain ⟨d, hd, hc⟩ := Option.bind_eq_some_iff.1 hc
        split at hc
        · rename_i e
          obtain ⟨sz, hsz, hc⟩ := Option.bind_eq_some_iff.1 hc
          split at hc
          · cases hc
          · obtain ⟨d', hd', hc⟩ := Option.bind_eq_some_iff.1 hc
            obtain ⟨s', hs', hc⟩ := Option.bind_eq_some_iff.1 hc
            cases hp hc (by simp) (by simp)
            exact op_copy hop rfl (hargs _ hx) (htys _ ht) hd hsz hd' hs' hC hr K
        · cases hc
      · obtain ⟨os, hos, hc⟩ := Option.bind_eq_some_iff.1 hc
        cases hp hc (by simp) (by simp)
        exact op_max hop rfl hos hC hr K
      · obtain ⟨os, hos, hc⟩ := Option.bind_eq_some_iff.1 hc
        cases hp hc (by simp) (by simp)
        exact op_min hop rfl hos hC hr K
      · cases hc
end
end Go.Vq
namespace Go.Vq
theorem setS_slot {σ : St} {s s' : Nat} {v : V} (h : s' ≠ s) : (σ.setS s v).slot s' = σ.slot s' := by
  simp only [St.setS, St.slot, List.getD_eq_getElem?_getD, List.getElem?_set_ne (fun e => h e.symm)]
theorem setS_obj {σ : St} {s o : Nat} {v : V} : (σ.setS s v).obj o = σ.obj o := rfl
theorem setO_slot {σ : St} {s o : Nat} {x : Option Obj} : (σ.setO o x).slot s = σ.slot s := rfl
theorem setO_obj {σ : St} {o o' : Nat} {x : Option Obj} (h : o' ≠ o) : (σ.setO o x).obj o' = σ.obj o' := by
  simp only [St.setO, St.obj, List.getD_eq_getElem?_getD, List.getElem?_set_ne (fun e => h e.symm)]
theorem setS_setS {σ : St} {s s' : Nat} {v v' : V} (h : s ≠ s') : (σ.setS s v).setS s' v' = (σ.setS s' v').setS s v := by
  simp only [St.setS, List.set_comm _ _ h]
theorem setO_setO {σ : St} {o o' : Nat} {x x' : Option Obj} (h : o ≠ o') : (σ.setO o x).setO o' x' = (σ.setO o' x').setO o x := by
  simp only [St.setO, List.set_comm _ _ h]
theorem setS_setO {σ : St} {s o : Nat} {v : V} {x : Option Obj} : (σ.setS s v).setO o x = (σ.setO o x).setS s v := rfl
theorem setO_len {σ : St} {o : Nat} {x : Option Obj} : (σ.setO o x).objs.length = σ.objs.length := by simp [St.setO]
theorem run_len : ∀ {p : Prog} {σ τ : St}, p.run σ = some τ → τ.objs.length = σ.objs.length
  | .fail, _, _, h => by cases h
  | .ret, _, _, h => by cases h; rfl
  | .getS s k, σ, τ, h => run_len (p := k (σ.slot s)) h
  | .setS s v k, σ, τ, h => by have := run_len (p := k) (σ := σ.setS s v) h; exact this
  | .getO o k, σ, τ, h => run_len (p := k (σ.obj o)) h
  | .setO o x k, σ, τ, h => by
    simp only [Prog.run] at h
    split at h
    · have := run_len (p := k) h; rw [this, setO_len]
    · cases h
theorem run_slot : ∀ {p : Prog} {σ τ : St} {s : Nat}, p.run σ = some τ → Loc.slot s ∉ (p.foot σ).2 → τ.slot s = σ.slot s
  | .fail, _, _, _, h, _ => by cases h
  | .ret, _, _, _, h, _ => by cases h; rfl
  | .getS t k, σ, τ, s, h, hn => run_slot (p := k (σ.slot t)) h hn
  | .setS t v k, σ, τ, s, h, hn => by
    simp only [Prog.foot, List.mem_cons, Loc.slot.injEq, not_or] at hn
    rw [run_slot (p := k) (σ := σ.setS t v) h hn.2, setS_slot hn.1]
  | .getO o k, σ, τ, s, h, hn => run_slot (p := k (σ.obj o)) h hn
  | .setO o x k, σ, τ, s, h, hn => by
    simp only [Prog.foot, List.mem_cons, reduceCtorEq, false_or] at hn
    simp only [Prog.run] at h
    split at h
    · rw [run_slot (p := k) h hn]; rfl
    · cases h
theorem run_obj : ∀ {p : Prog} {σ τ : St} {o : Nat}, p.run σ = some τ → Loc.obj o ∉ (p.foot σ).2 → τ.obj o = σ.obj o
  | .fail, _, _, _, h, _ => by cases h
  | .ret, _, _, _, h, _ => by cases h; rfl
  | .getS t k, σ, τ, s, h, hn => run_obj (p := k (σ.slot t)) h hn
  | .setS t v k, σ, τ, s, h, hn => by
    simp only [Prog.foot, List.mem_cons, reduceCtorEq, false_or] at hn
    rw [run_obj (p := k) (σ := σ.setS t v) h hn]; rfl
  | .getO o k, σ, τ, s, h, hn => run_obj (p := k (σ.obj o)) h hn
  | .setO o x k, σ, τ, s, h, hn => by
    simp only [Prog.foot, List.mem_cons, Loc.obj.injEq, not_or] at hn
    simp only [Prog.run] at h
    split at h
    · rw [run_obj (p := k) h hn.2, setO_obj hn.1]
    · cases h
theorem past_setS : ∀ {p : Prog} {σ τ : St} {s : Nat} {v : V}, p.run (σ.setS s v) = some τ → Loc.slot s ∉ (p.foot (σ.setS s v)).1 → Loc.slot s ∉ (p.foot (σ.setS s v)).2 →
    ∃ τ', p.run σ = some τ' ∧ τ = τ'.setS s v ∧ p.foot σ = p.foot (σ.setS s v)
  | .fail, _, _, _, _, h, _, _ => by cases h
  | .ret, σ, _, _, _, h, _, _ => by cases h; exact ⟨σ, rfl, rfl, rfl⟩
  | .getS t k, σ, τ, s, v, h, h1, h2 => by
    simp only [Prog.foot, List.mem_cons, Loc.slot.injEq, not_or] at h1
    have e := setS_slot (σ := σ) (v := v) (fun e => h1.1 e.symm : t ≠ s)
    simp only [Prog.run, Prog.foot] at h h1 h2 ⊢
    rw [e] at h h1 h2 ⊢
    obtain ⟨τ', g1, g2, g3⟩ := past_setS h h1.2 h2
    exact ⟨τ', g1, g2, by rw [g3]⟩
  | .setS t u k, σ, τ, s, v, h, h1, h2 => by
    simp only [Prog.foot, List.mem_cons, Loc.slot.injEq, not_or] at h2
    simp only [Prog.run, Prog.foot] at h h1 h2 ⊢
    rw [setS_setS h2.1] at h h1 h2 ⊢
    obtain ⟨τ', g1, g2, g3⟩ := past_setS h h1 h2.2
    exact ⟨τ', g1, g2, by rw [g3]⟩
  | .getO o k, σ, τ, s, v, h, h1, h2 => by
    simp only [Prog.foot, List.mem_cons, reduceCtorEq, false_or] at h1
    simp only [Prog.run, Prog.foot, setS_obj] at h h1 h2 ⊢
    obtain ⟨τ', g1, g2, g3⟩ := past_setS h h1 h2
    exact ⟨τ', g1, g2, by rw [g3]⟩
  | .setO o x k, σ, τ, s, v, h, h1, h2 => by
    simp only [Prog.foot, List.mem_cons, reduceCtorEq, false_or] at h2
    simp only [Prog.run, Prog.foot] at h h1 h2 ⊢
    split at h
    · rename_i hlt
      rw [setS_setO] at h h1 h2 ⊢
      obtain ⟨τ', g1, g2, g3⟩ := past_setS h h1 h2
      exact ⟨τ', by rw [if_pos (show o < σ.objs.length from hlt)]; exact g1, g2, by rw [g3]⟩
    · cases h
theorem past_setO : ∀ {p : Prog} {σ τ : St} {o : Nat} {x : Option Obj}, p.run (σ.setO o x) = some τ → Loc.obj o ∉ (p.foot (σ.setO o x)).1 → Loc.obj o ∉ (p.foot (σ.setO o x)).2 →
    ∃ τ', p.run σ = some τ' ∧ τ = τ'.setO o x ∧ p.foot σ = p.foot (σ.setO o x)
  | .fail, _, _, _, _, h, _, _ => by cases h
  | .ret, σ, _, _, _, h, _, _ => by cases h; exact ⟨σ, rfl, rfl, rfl⟩
  | .getS t k, σ, τ, o, x, h, h1, h2 => by
    simp only [Prog.foot, List.mem_cons, reduceCtorEq, false_or] at h1
    simp only [Prog.run, Prog.foot, setO_slot] at h h1 h2 ⊢
    obtain ⟨τ', g1, g2, g3⟩ := past_setO h h1 h2
    exact ⟨τ', g1, g2, by rw [g3]⟩
  | .setS t u k, σ, τ, o, x, h, h1, h2 => by
    simp only [Prog.foot, List.mem_cons, reduceCtorEq, false_or] at h2
    simp only [Prog.run, Prog.foot] at h h1 h2 ⊢
    rw [← setS_setO] at h h1 h2 ⊢
    obtain ⟨τ', g1, g2, g3⟩ := past_setO h h1 h2
    exact ⟨τ', g1, g2, by rw [g3]⟩
  | .getO o' k, σ, τ, o, x, h, h1, h2 => by
    simp only [Prog.foot, List.mem_cons, Loc.obj.injEq, not_or] at h1
    have e := setO_obj (σ := σ) (x := x) (fun e => h1.1 e.symm : o' ≠ o)
    simp only [Prog.run, Prog.foot] at h h1 h2 ⊢
    rw [e] at h h1 h2 ⊢
    obtain ⟨τ', g1, g2, g3⟩ := past_setO h h1.2 h2
    exact ⟨τ', g1, g2, by rw [g3]⟩
  | .setO o' y k, σ, τ, o, x, h, h1, h2 => by
    simp only [Prog.foot, List.mem_cons, Loc.obj.injEq, not_or] at h2
    simp only [Prog.run, Prog.foot, setO_len] at h h1 h2 ⊢
    split at h
    · rename_i hlt
      rw [setO_setO h2.1] at h h1 h2 ⊢
      obtain ⟨τ', g1, g2, g3⟩ := past_setO h h1 h2.2
      exact ⟨τ', by rw [if_pos hlt]; exact g1, g2, by rw [g3]⟩
    · cases h
def Apart (a b : List Loc × List Loc) : Prop := (∀ l ∈ a.2, l ∉ b.1 ∧ l ∉ b.2) ∧ ∀ l ∈ b.2, l ∉ a.1
theorem commute : ∀ {q p : Prog} {σ σ1 σ2 : St}, q.run σ = some σ1 → p.run σ1 = some σ2 → Apart (q.foot σ) (p.foot σ1) → ∃ τ, p.run σ = some τ ∧ q.run τ = some σ2 ∧ p.foot σ = p.foot σ1 ∧ q.foot τ = q.foot σ
  | .fail, _, _, _, _, h, _, _ => by cases h
  | .ret, p, σ, σ1, σ2, h, h', _ => by cases h; exact ⟨σ2, h', rfl, rfl, rfl⟩
  | .getS s k, p, σ, σ1, σ2, h, h', ha => by
    simp only [Prog.run] at h
    simp only [Prog.foot, Apart] at ha
    obtain ⟨τ, g1, g2, g3, g4⟩ := commute h h' ⟨ha.1, fun l hl hm => ha.2 l hl (List.mem_cons_of_mem _ hm)⟩
    have e : τ.slot s = σ.slot s := run_slot g1 (by rw [g3]; exact fun hm => ha.2 _ hm (List.mem_cons_self ..))
    exact ⟨τ, g1, by simp only [Prog.run, e]; exact g2, g3, by simp only [Prog.foot, e, g4]⟩
  | .getO o k, p, σ, σ1, σ2, h, h', ha => by
    simp only [Prog.run] at h
    simp only [Prog.foot, Apart] at ha
    obtain ⟨τ, g1, g2, g3, g4⟩ := commute h h' ⟨ha.1, fun l hl hm => ha.2 l hl (List.mem_cons_of_mem _ hm)⟩
    have e : τ.obj o = σ.obj o := run_obj g1 (by rw [g3]; exact fun hm => ha.2 _ hm (List.mem_cons_self ..))
    exact ⟨τ, g1, by simp only [Prog.run, e]; exact g2, g3, by simp only [Prog.foot, e, g4]⟩
  | .setS s v k, p, σ, σ1, σ2, h, h', ha => by
    simp only [Prog.run] at h
    simp only [Prog.foot, Apart] at ha
    obtain ⟨τ', g1, g2, g3, g4⟩ := commute (q := k) h h' ⟨fun l hl => ha.1 l (List.mem_cons_of_mem _ hl), ha.2⟩
    have hw := ha.1 _ (List.mem_cons_self ..)
    rw [← g3] at hw
    obtain ⟨τ, k1, rfl, k3⟩ := past_setS g1 hw.1 hw.2
    exact ⟨τ, k1, g2, k3.trans g3, by simp only [Prog.foot, g4]⟩
  | .setO o x k, p, σ, σ1, σ2, h, h', ha => by
    simp only [Prog.run] at h
    split at h
    · rename_i hlt
      simp only [Prog.foot, Apart] at ha
      obtain ⟨τ', g1, g2, g3, g4⟩ := commute (q := k) h h' ⟨fun l hl => ha.1 l (List.mem_cons_of_mem _ hl), ha.2⟩
      have hw := ha.1 _ (List.mem_cons_self ..)
      rw [← g3] at hw
      obtain ⟨τ, k1, rfl, k3⟩ := past_setO g1 hw.1 hw.2
      refine ⟨τ, k1, ?_, k3.trans g3, by simp only [Prog.foot, g4]⟩
      simp only [Prog.run]
      rw [if_pos (by rw [run_len k1]; exact hlt)]; exact g2
    · cases h
theorem clash_apart {a b : List Loc × List Loc} (h : clash a b = false) : Apart a b := by
  simp only [clash, Bool.or_eq_false_iff, List.any_eq_false, List.contains_iff_mem, Bool.or_eq_true, not_or] at h
  exact ⟨fun l hl => h.1 l hl, fun l hl => h.2 l hl⟩
section
variable {callee : Callee} {base : Nat}
def RunF (callee : Callee) (base : Nat) : List VOper → List (List Loc × List Loc) → St → St → Prop
  | [], [], σ, σ' => σ = σ'
  | o :: os, f :: fs, σ, σ' => ∃ σ1, (o.prog callee base).run σ = some σ1 ∧ (o.prog callee base).foot σ = f ∧ RunF callee base os fs σ1 σ'
  | _, _, _, _ => False
theorem RunF.len : ∀ {os : List VOper} {fs : List (List Loc × List Loc)} {σ σ' : St}, RunF callee base os fs σ σ' → fs.length = os.length
  | [], [], _, _, _ => rfl
  | [], _ :: _, _, _, h => h.elim
  | _ :: _, [], _, _, h => h.elim
  | o :: os, f :: fs, σ, σ', ⟨σ1, _, _, h⟩ => by simp [h.len]
theorem RunF.pull : ∀ {R1 : List VOper} {F1 : List (List Loc × List Loc)} {o : VOper} {f : List Loc × List Loc} {R2 : List VOper} {F2 : List (List Loc × List Loc)} {σ σ' : St}, F1.length = R1.length → RunF callee base (R1 ++ o :: R2) (F1 ++ f :: F2) σ σ' → (∀ g ∈ F1, clash g f = false) →
    ∃ σ1, (o.prog callee base).run σ = some σ1 ∧ (o.prog callee base).foot σ = f ∧ RunF callee base (R1 ++ R2) (F1 ++ F2) σ1 σ'
  | [], [], o, f, R2, F2, σ, σ', _, h, _ => h
  | [], _ :: _, _, _, _, _, _, _, h, _, _ => by simp at h
  | _ :: _, [], _, _, _, _, _, _, h, _, _ => by simp at h
  | q :: R1, g :: F1, o, f, R2, F2, σ, σ', hl, ⟨σ1, h1, h2, h3⟩, hc => by
    obtain ⟨σ2, g1, g2, g3⟩ := RunF.pull (by simpa using hl) h3 (fun g' hg => hc g' (List.mem_cons_of_mem _ hg))
    have ha := clash_apart (hc g (List.mem_cons_self ..))
    rw [← h2, ← g2] at ha
    obtain ⟨τ, k1, k2, k3, k4⟩ := commute h1 g1 ha
    exact ⟨τ, k1, k3.trans g2, σ2, k2, k4.trans h2, g3⟩
theorem clashes_get : ∀ {fs : List (List Loc × List Loc)} {before i : Nat} {f : List Loc × List Loc}, clashes before f i fs = false → ∀ (k : Nat) (g : List Loc × List Loc), fs[k]? = some g → before.testBit (i + k) = true ∨ clash g f = false
  | [], _, _, _, _, k, g, h => by simp at h
  | g0 :: fs, before, i, f, hc, k, g, h => by
    simp only [clashes, Bool.or_eq_false_iff, Bool.and_eq_false_iff, Bool.not_eq_false'] at hc
    cases k with
    | zero => simp at h; subst h; exact hc.1
    | succ k =>
      have := clashes_get hc.2 k g (by simpa using h)
      rw [show i + 1 + k = i + (k + 1) by omega] at this
      exact this
theorem runDraw_sound : ∀ {os : List VOper} {done : List (List Loc × List Loc)} {σ σ' : St}, runDraw callee base os done σ = some σ' →
    ∃ fs, RunF callee base os fs σ σ' ∧ ∀ (l : Nat) (o : VOper) (f : List Loc × List Loc), os[l]? = some o → fs[l]? = some f → ∀ (k : Nat) (g : List Loc × List Loc), k < done.length + l → (done ++ fs)[k]? = some g → o.before.testBit k = true ∨ clash g f = false
  | [], done, σ, σ', h => by
    simp only [runDraw, Option.some.injEq] at h
    exact ⟨[], h, fun l o f h => by simp at h⟩
  | o :: os, done, σ, σ', h => by
    simp only [runDraw] at h
    split at h
    · cases h
    · rename_i hc
      split at h
      · rename_i σ1 h1
        obtain ⟨fs, g1, g2⟩ := runDraw_sound h
        refine ⟨_ :: fs, ⟨σ1, h1, rfl, g1⟩, fun l o' f ho hf k g hk hg => ?_⟩
        cases l with
        | zero =>
          simp at ho hf; subst ho hf
          have := clashes_get (by simpa using hc) k g (by rw [List.getElem?_append_left (by omega)] at hg; exact hg)
          simpa using this
        | succ l =>
          refine g2 l o' f (by simpa using ho) (by simpa using hf) k g (by simp; omega) ?_
          simpa using hg
      · cases h
end
end Go.Vq
namespace Go.Vq
structure VOperOk (P : Program) (all : Array Oper) (done : List Nat) (o : Oper) (v : VOper) : Prop where
  op : ∃ site, ((cOp P o site).getD .stuck).strip = v.op.strip
  dst : v.dst = o.dst
  guard : (o.guard = none ∧ v.guard = none) ∨ ∃ j want s, o.guard = some (j, want) ∧ (all[j]?).bind (·.dst) = some s ∧ v.guard = some (s, want)
  before : v.before = vbef done o
  edges : ∀ e ∈ o.after.toList, Region.binds .any e = true → e.on < done.length
theorem cOps_ok {P : Program} {all : Array Oper} : ∀ {os : List Oper} {vs : List VOper} {site m : Nat} {done : List Nat}, cOps P all site done os = some (m, vs.map VOper.strip) →
    vs.length = os.length ∧ ∀ (i : Nat) (o : Oper) (v : VOper), os[i]? = some o → vs[i]? = some v → VOperOk P all (done ++ (vs.take i).map (·.before)) o v
  | [], vs, site, m, done, h => by
    simp only [cOps, Option.some.injEq, Prod.mk.injEq] at h
    have : vs = [] := by cases vs <;> simp at h ⊢
    subst this
    exact ⟨rfl, fun i o v h => by simp at h⟩
  | o :: os, vs, site, m, done, h => by
    simp only [cOps, Option.bind_eq_bind, Option.pure_def] at h
    obtain ⟨g, hg, h⟩ := Option.bind_eq_some_iff.1 h
    split at h
    · cases h
    · rename_i hedge
      obtain ⟨⟨m', rest⟩, hrest, h⟩ := Option.bind_eq_some_iff.1 h
      simp only [Option.some.injEq, Prod.mk.injEq] at h
      obtain ⟨h1, h2⟩ := h
      cases vs with
      | nil => simp at h2
      | cons v vs =>
        simp only [List.map_cons, List.cons.injEq] at h2
        obtain ⟨hv, hvs⟩ := h2
        rw [hvs] at hrest
        have hb : v.before = vbef done o := by have := congrArg VOper.before hv; simpa [VOper.strip] using this.symm
        obtain ⟨i1, i2⟩ := cOps_ok hrest
        refine ⟨by simp [i1], fun i o' v' ho hv' => ?_⟩
        cases i with
        | zero =>
          simp at ho hv'; subst ho hv'
          refine ⟨⟨site, ?_⟩, ?_, ?_, by simpa using hb, ?_⟩
          · have := congrArg VOper.op hv; simp only [VOper.strip] at this; exact this
          · have := congrArg VOper.dst hv; simp only [VOper.strip] at this; exact this.symm
          · have hvg : v.guard = g := by have := congrArg VOper.guard hv; simp only [VOper.strip] at this; exact this.symm
            rw [hvg]
            unfold cGuard at hg
            split at hg
            · rename_i hog; cases hg; exact .inl ⟨hog, rfl⟩
            · rename_i j want hog
              obtain ⟨s, hs, rfl⟩ := Option.map_eq_some_iff.1 hg
              exact .inr ⟨j, want, s, hog, hs, rfl⟩
          · intro e he hb
            simp only [List.any_eq_true, Bool.and_eq_true, decide_eq_true_eq, not_exists, not_and, Nat.not_le] at hedge
            simpa using hedge e he hb
        | succ i =>
          have := i2 i o' v' (by simpa using ho) (by simpa using hv')
          rw [← hb, List.append_assoc] at this
          simpa using this
def Fw (r : Option Nat) : Fence := { Fence.wide with round := r }
theorem callsIn_fw {r : Option Nat} {n : Nat} {P : Program} {f : FuncId} {args : Array Value} {w : World} {R : Ending → World → Prop} : CallsIn (Fw r) n P f args w R ↔ Calls P f args w R := callsIn_wide (n := n)
theorem upon_in {r : Option Nat} {n : Nat} {P : Program} {o : Oper} {a : Act} {next : Act → World → Prop} {Q : Exit → Act → World → Prop} {x : Result Next} (h : o.upon P a next Q x) : o.uponIn (Fw r) n P a next Q x := by
  cases x with
  | ok x w' =>
    cases x with
    | value v => exact h
    | skip => exact h
    | defer d => exact h
    | enter f args => exact ⟨fun h => (by cases h), callsIn_fw.2 h⟩
    | row row args => exact ⟨fun h => (by cases h), fun c cs _ => let ⟨v, w', r, s⟩ := h c cs; ⟨v, w', r, stepsIn_wide.2 s⟩⟩
    | _ => exact h.elim
  | halt x w' => cases x <;> exact h
theorem oper_in {r : Option Nat} {n : Nat} {P : Program} {o : Oper} {a : Act} {w : World} {next : Act → World → Prop} {Q : Exit → Act → World → Prop} (h : o.wp P a w next Q) (hd : ∀ c, o.op ≠ .defer c) : o.wpIn (Fw r) n P a w next Q :=
  ⟨fun _ _ => trivial, by rw [Oper.semAt_eq _ _ _ hd]; exact upon_in h⟩
section
variable {P : Program} {n base : Nat} {E E' E2 : Env} {σ σ' : St} {hs : List V} {ts xs : List Value} {H H' H2 : Array Go.Obj}
variable {callee : Callee} {o : Oper} {a : Act} {w : World} {next : Act → World → Prop} {Q : Exit → Act → World → Prop}
theorem skip_sound {d : Option Nat} (hC : CoreS n E σ [] a.tmps.toList [] w.heap) (hr : (skipP d).run σ = some σ') (K : NextOk n base E σ' a w next) : next (a.put d undef) w := by
  have hC1 : CoreS n E σ ([] ++ [.tup []]) a.tmps.toList ([] ++ [undef]) w.heap :=
    hC.push (by simp [V.leaves]) ⟨⟨#[], rfl, rfl, fun i v x h => by simp at h⟩, fun i u y h => by simp [V.leaves] at h⟩ (by intro r hr; simp [V.refs, V.leaves] at hr)
  obtain ⟨E2, σ2, h1, h2, _, h3⟩ := putO_sound (base := base) (hs := []) (xs := []) hC1 hr
  cases h3
  exact K E2 _ w (by rw [put_toList]; exact h1) h2 (WSame.refl _) (put_defers _ _ _)
theorem voper_sound {all : Array Oper} {done : List Nat} {v : VOper} (hcallee : CalleeOk P callee) (hv : VOperOk P all done o v) (hC : CoreS n E σ [] a.tmps.toList [] w.heap)
    (hr : (v.prog callee base).run σ = some σ') (K : NextOk n base E σ' a w next) :
    (Region.wanted o (yielded all a.tmps) = true ∧ o.wp P a w next Q ∧ ∀ c, o.op ≠ .defer c) ∨ (Region.wanted o (yielded all a.tmps) = false ∧ next (a.put o.dst undef) w) := by
  obtain ⟨site, hst⟩ := hv.op
  have hrun : (opProg callee base v.dst v.op).run σ = some σ' → o.wp P a w next Q ∧ ∀ c, o.op ≠ .defer c := by
    intro h
    rw [hv.dst] at h
    cases hop : cOp P o site with
    | some v0 =>
      rw [hop] at hst
      refine ⟨op_sound hcallee hop hst hC h K, fun c hc => ?_⟩
      unfold cOp at hop
      rw [hc] at hop
      cases hop
    | none =>
      rw [hop] at hst
      have hst : VOp.stuck = v.op.strip := hst
      rw [strip_plain hst (by simp) (by simp)] at h
      cases h
  rcases hv.guard with ⟨g1, g2⟩ | ⟨j, want, s, g1, g2, g3⟩
  · left
    refine ⟨by simp [Region.wanted, g1], hrun ?_⟩
    simp only [VOper.prog, g2] at hr; exact hr
  · simp only [VOper.prog, g3, Prog.run] at hr
    have hn : s < n := by
      rcases Nat.lt_or_ge s n with h | h
      · exact h
      · rw [hC.slotBig (by omega)] at hr; cases hr
    have hS := hC.slotRel hn
    obtain ⟨x, hx⟩ := exists_getElem? (l := a.tmps.toList) (i := s) (hC.tl ▸ hn)
    rw [getD_of_getElem? hx] at hS
    have hx' : a.tmps[s]? = some x := by simpa using hx
    split at hr
    · rename_i b hb
      rw [hb] at hS
      have e := slot_toVal (y := .bool b) hS rfl
      subst e
      have hy : yielded all a.tmps j = some b := by simp only [yielded, g2, Option.bind_some, hx']
      rw [Prog.run_ite] at hr
      split at hr
      · rename_i hbw
        left
        refine ⟨?_, hrun hr⟩
        simp only [Region.wanted, g1, hy]
        simp only [beq_iff_eq] at hbw
        simp [hbw]
      · rename_i hbw
        right
        refine ⟨?_, ?_⟩
        · simp only [Region.wanted, g1, hy]
          simp only [beq_iff_eq] at hbw
          simp [hbw]
        · rw [hv.dst] at hr
          exact skip_sound hC hr K
    · rename_i hb
      rw [hb] at hS
      obtain ⟨xs, rfl, _⟩ := hS.1
      have hy : yielded all a.tmps j = none := by simp only [yielded, g2, Option.bind_some, hx']
      right
      refine ⟨by simp only [Region.wanted, g1, hy]; simp, ?_⟩
      rw [hv.dst] at hr
      exact skip_sound hC hr K
    · cases hr
def runAt (callee : Callee) (base : Nat) (vs : List VOper) : List Nat → St → Option St
  | [], σ => some σ
  | i :: L, σ => match vs[i]? with
    | some v => match (v.prog callee base).run σ with
      | some σ1 => runAt callee base vs L σ1
      | none => none
    | none => none
theorem wpOps_sound {r : Option Nat} {nf : Nat} {ops : Array Oper} {vs : List VOper} {D : Nat → List Nat} (hcallee : CalleeOk P callee) (hlen : vs.length = ops.size) (hok : ∀ (i : Nat) (o : Oper) (v : VOper), ops[i]? = some o → vs[i]? = some v → VOperOk P ops (D i) o v) :
    ∀ (L : List Nat) {E : Env} {σ : St} {a : Act} {w : World}, runAt callee base vs L σ = some σ' → CoreS n E σ [] a.tmps.toList [] w.heap → NextOk n base E σ' a w (Q .normal) → wpOpsIn (Fw r) nf P ops Q L a w
  | [], E, σ, a, w, hr, hC, K => by
    cases hr
    exact K E a w hC (Grow.refl _ _ _) (WSame.refl _) rfl
  | i :: L, E, σ, a, w, hr, hC, K => by
    simp only [runAt] at hr
    split at hr
    · rename_i v hv
      split at hr
      · rename_i σ1 h1
        have hi := lt_of_getElem? hv
        have ho : ops[i]? = some ops[i] := Array.getElem?_eq_getElem (hlen ▸ hi)
        simp only [wpOpsIn, ho]
        have := voper_sound (Q := Q) (next := wpOpsIn (Fw r) nf P ops Q L) (base := base) hcallee (hok i _ v ho hv) hC h1 (fun E' a' w' h2 h3 h4 h5 => wpOps_sound hcallee hlen hok L hr h2 fun E'' a'' w'' k1 k2 k3 k4 => K E'' a'' w'' k1 (h3.trans k2) (h4.trans k3) (k4.trans h5))
        rcases this with ⟨h2, h3⟩ | ⟨h2, h3⟩
        · rw [if_pos h2]; exact oper_in h3.1 h3.2
        · rw [if_neg (by rw [h2]; simp)]; exact ⟨fun _ _ => trivial, h3⟩
      · cases hr
    · cases hr
theorem runOps_at : ∀ (vs pre : List VOper) (σ : St), runOps callee base vs σ = runAt callee base (pre ++ vs) (List.range' pre.length vs.length) σ
  | [], pre, σ => rfl
  | v :: vs, pre, σ => by
    simp only [runOps, List.length_cons, List.range'_succ, runAt]
    rw [List.getElem?_append_right (Nat.le_refl _), Nat.sub_self]
    simp only [List.getElem?_cons_zero]
    cases h : (v.prog callee base).run σ with
    | none => rfl
    | some σ1 =>
      have := runOps_at vs (pre ++ [v]) σ1
      simp only
      rw [this]; simp
theorem testBit_two_pow' (i j : Nat) : (2 ^ i).testBit j = decide (i = j) := Nat.testBit_two_pow
theorem vbef_bit {done : List Nat} {o : Oper} {j : Nat} (h : (vbef done o).testBit j = true) : ∃ e ∈ o.after.toList, Region.binds .any e = true ∧ (j = e.on ∨ (done.getD e.on 0).testBit j = true) := by
  unfold vbef at h
  have key : ∀ (l : List Edge) (s : Nat), (l.foldl (fun s e => if Region.binds .any e then s ||| 2 ^ e.on ||| done.getD e.on 0 else s) s).testBit j = true → s.testBit j = true ∨ ∃ e ∈ l, Region.binds .any e = true ∧ (j = e.on ∨ (done.getD e.on 0).testBit j = true) := by
    intro l
    induction l with
    | nil => intro s h; exact .inl h
    | cons e l ih =>
      intro s h
      rcases ih _ h with h1 | ⟨e', h1, h2⟩
      · dsimp only at h1
        split at h1
        · rename_i hb
          simp only [Nat.testBit_or, testBit_two_pow', Bool.or_eq_true, decide_eq_true_eq] at h1
          rcases h1 with (h1 | h1) | h1
          · exact .inl h1
          · exact .inr ⟨e, List.mem_cons_self .., hb, .inl h1.symm⟩
          · exact .inr ⟨e, List.mem_cons_self .., hb, .inr h1⟩
        · exact .inl h1
      · exact .inr ⟨e', List.mem_cons_of_mem _ h1, h2⟩
  rcases key _ _ h with h | h
  · simp at h
  · exact h
theorem binds_any {m : Region.Mode} {e : Edge} (h : Region.binds .any e = true) : Region.binds m e = true := by
  unfold Region.binds at *
  cases hg : e.ground <;> simp only [hg] at h ⊢ <;> cases h
theorem exists_least {p : Nat → Bool} {i : Nat} (h : p i = true) : ∃ k, k ≤ i ∧ p k = true ∧ ∀ j, j < k → p j = false := by
  induction i using Nat.strongRecOn with
  | _ i ih =>
    by_cases hj : ∃ j, j < i ∧ p j = true
    · obtain ⟨j, h1, h2⟩ := hj
      obtain ⟨k, k1, k2, k3⟩ := ih j h1 h2
      exact ⟨k, by omega, k2, k3⟩
    · refine ⟨i, Nat.le_refl _, h, fun j hlt => ?_⟩
      cases hp : p j with
      | false => rfl
      | true => exact absurd ⟨j, hlt, hp⟩ hj
theorem range_split {n i : Nat} (h : i < n) : List.range n = List.range i ++ i :: List.range' (i + 1) (n - i - 1) := by
  obtain ⟨k, rfl⟩ : ∃ k, n = i + (k + 1) := ⟨n - i - 1, by omega⟩
  rw [show i + (k + 1) - i - 1 = k by omega, List.range_eq_range', List.range_eq_range']
  have := List.range'_append (s := 0) (m := i) (n := k + 1) (step := 1)
  rw [← this, List.range'_succ]
  simp
end
end Go.Vq
namespace Go.Vq
section
variable {P : Program} {n base : Nat} {E E' E2 : Env} {σ σ' : St} {hs : List V} {ts xs : List Value} {H H' H2 : Array Go.Obj}
variable {callee : Callee} {o : Oper} {a : Act} {w : World} {next : Act → World → Prop} {Q : Exit → Act → World → Prop}
theorem go_acc {m : Region.Mode} {ops : Array Oper} : ∀ (fuel t : Nat) (listed : Array Bool) (acc : List Nat), Region.linearise.go m ops fuel t listed acc = acc.reverse ++ Region.linearise.go m ops fuel t listed []
  | 0, t, listed, acc => by simp [Region.linearise.go]
  | fuel + 1, t, listed, acc => by
    simp only [Region.linearise.go]
    split
    · rename_i i _
      rw [go_acc fuel _ _ (i :: acc), go_acc fuel _ _ [i]]
      simp
    · simp
def rem (m : Nat) (listed : Array Bool) : List Nat := (List.range m).filter fun i => !listed.getD i true
theorem getD_set {listed : Array Bool} {i j : Nat} (h : i < listed.size) : (listed.setIfInBounds i true).getD j true = if j = i then true else listed.getD j true := by
  simp only [Array.getD_eq_getD_getElem?]
  by_cases e : j = i
  · subst e; rw [if_pos rfl, Array.getElem?_setIfInBounds_self_of_lt h]; rfl
  · rw [if_neg e, Array.getElem?_setIfInBounds_ne (fun h => e h.symm)]
theorem filter_same {α : Type} {p q : α → Bool} : ∀ {l : List α}, (∀ x ∈ l, p x = q x) → l.filter p = l.filter q
  | [], _ => rfl
  | x :: l, h => by
    have h1 := h x (by simp)
    have h2 := filter_same (p := p) (q := q) (l := l) fun y hy => h y (List.mem_cons_of_mem _ hy)
    simp only [List.filter_cons, h1, h2]
theorem rem_split {m i : Nat} {listed : Array Bool} (hs : listed.size = m) (hi : i < m) (hl : listed.getD i true = false) :
    ∃ L1 L2, rem m listed = L1 ++ i :: L2 ∧ rem m (listed.setIfInBounds i true) = L1 ++ L2 ∧ ∀ j ∈ L1, j < i ∧ listed.getD j true = false := by
  refine ⟨(List.range i).filter fun j => !listed.getD j true, (List.range' (i + 1) (m - i - 1)).filter fun j => !listed.getD j true, ?_, ?_, fun j hj => ?_⟩
  · unfold rem
    rw [range_split hi, List.filter_append, List.filter_cons, hl]
    simp
  · unfold rem
    rw [range_split hi, List.filter_append, List.filter_cons, getD_set (hs ▸ hi), if_pos rfl]
    simp only [Bool.not_true, Bool.false_eq_true, if_false]
    congr 1
    · refine filter_same fun j hj => ?_
      rw [getD_set (hs ▸ hi), if_neg (by have := List.mem_range.1 hj; omega)]
    · refine filter_same fun j hj => ?_
      rw [getD_set (hs ▸ hi), if_neg (by have := List.mem_range'.1 hj; obtain ⟨k, _, rfl⟩ := this; omega)]
  · obtain ⟨h1, h2⟩ := List.mem_filter.1 hj
    exact ⟨List.mem_range.1 h1, by simpa using h2⟩
theorem go_run {ops : Array Oper} {vs : List VOper} {fs : List (List Loc × List Loc)} {m : Region.Mode} {rank : Nat → Nat} (hrank : ∀ (i : Nat) (o : Oper), ops[i]? = some o → ∀ e ∈ o.after.toList, Region.binds m e = true → e.on < ops.size ∧ rank e.on < rank i) (hlen : vs.length = ops.size) (hok : ∀ (i : Nat) (o : Oper) (v : VOper), ops[i]? = some o → vs[i]? = some v → VOperOk P ops ((vs.take i).map (·.before)) o v)
    (hf : fs.length = vs.length) (hpair : ∀ (l : Nat) (v : VOper) (f : List Loc × List Loc), vs[l]? = some v → fs[l]? = some f → ∀ (k : Nat) (g : List Loc × List Loc), k < l → fs[k]? = some g → v.before.testBit k = true ∨ clash g f = false) :
    ∀ (fuel t : Nat) (listed : Array Bool) (σ : St), listed.size = ops.size → (rem ops.size listed).length = fuel → (∀ (k : Nat) (v : VOper) (j : Nat), vs[k]? = some v → listed.getD k true = true → v.before.testBit j = true → listed.getD j true = true) →
      RunF callee base ((rem ops.size listed).map fun i => vs.getD i default) ((rem ops.size listed).map fun i => fs.getD i default) σ σ' → runAt callee base vs (Region.linearise.go m ops fuel t listed []) σ = some σ'
  | 0, t, listed, σ, hs, hr, hcl, hrun => by
    have : rem ops.size listed = [] := List.eq_nil_of_length_eq_zero hr
    rw [this] at hrun
    simp only [Region.linearise.go, List.reverse_nil, runAt]
    simp only [List.map_nil, RunF] at hrun
    rw [hrun]
  | fuel + 1, t, listed, σ, hs, hr, hcl, hrun => by
    simp only [Region.linearise.go]
    have hready : ∃ i, i < ops.size ∧ listed.getD i true = false ∧ ((ops[i]?).map (·.after.all fun e => !Region.binds m e || listed.getD e.on false)).getD false = true := by
      obtain ⟨i0, hi0⟩ : ∃ i, i ∈ rem ops.size listed := by
        cases h : rem ops.size listed with
        | nil => rw [h] at hr; simp at hr
        | cons x l => exact ⟨x, by simp⟩
      obtain ⟨h1, h2⟩ := List.mem_filter.1 hi0
      obtain ⟨r, r1, r2, r3⟩ := exists_least (p := fun r => (rem ops.size listed).any fun i => rank i == r) (i := rank i0) (List.any_eq_true.2 ⟨i0, hi0, by simp⟩)
      obtain ⟨k, hk, hkr⟩ := List.any_eq_true.1 r2
      have hkr : rank k = r := by simpa using hkr
      obtain ⟨k1, k2⟩ := List.mem_filter.1 hk
      have k1 := List.mem_range.1 k1
      have k2 : listed.getD k true = false := by simpa using k2
      refine ⟨k, k1, k2, ?_⟩
      have ho : ops[k]? = some ops[k] := Array.getElem?_eq_getElem k1
      rw [ho]
      simp only [Option.map_some, Option.getD_some, Array.all_eq_true']
      intro e he
      cases hb : Region.binds m e with
      | false => rfl
      | true =>
      obtain ⟨e1, e2⟩ := hrank k _ ho e (by simpa using he) hb
      have hl : listed.getD e.on true = true := by
        cases hx : listed.getD e.on true with
        | true => rfl
        | false =>
          have := r3 (rank e.on) (by omega)
          have h := List.any_eq_false.1 this e.on (List.mem_filter.2 ⟨List.mem_range.2 e1, by rw [hx]; rfl⟩)
          simp at h
      have hl2 : listed.getD e.on false = true := by
        have hb : e.on < listed.size := by omega
        simp only [Array.getD_eq_getD_getElem?, Array.getElem?_eq_getElem hb, Option.getD_some] at hl ⊢
        exact hl
      rw [hl2]; simp
    generalize hrs : ((List.range ops.size).filter fun i => !listed.getD i true && ((ops[i]?).map (·.after.all fun e => !Region.binds m e || listed.getD e.on false)).getD false) = rs
    have hpos : 0 < rs.length := by
      obtain ⟨i, h1, h2, h3⟩ := hready
      rw [← hrs]
      exact List.length_pos_of_mem (List.mem_filter.2 ⟨List.mem_range.2 h1, by rw [h2, h3]; rfl⟩)
    have hlt := Nat.mod_lt t hpos
    rw [List.getElem?_eq_getElem hlt]
    simp only
    have hmem : rs[t % rs.length] ∈ rs := List.getElem_mem hlt
    generalize rs[t % rs.length] = i at hmem
    rw [← hrs] at hmem
    obtain ⟨h1, h2⟩ := List.mem_filter.1 hmem
    have hi := List.mem_range.1 h1
    simp only [Bool.and_eq_true, Bool.not_eq_true'] at h2
    obtain ⟨h2, h3⟩ := h2
    obtain ⟨L1, L2, r1, r2, r3⟩ := rem_split hs hi h2
    obtain ⟨v, hv⟩ := exists_getElem? (l := vs) (i := i) (by omega)
    obtain ⟨f, hfi⟩ := exists_getElem? (l := fs) (i := i) (by omega)
    have ho : ops[i]? = some ops[i] := Array.getElem?_eq_getElem hi
    have hvo := hok i _ v ho hv
    have hbefore : ∀ j, v.before.testBit j = true → listed.getD j true = true := by
      intro j hj
      rw [hvo.before] at hj
      obtain ⟨e, e1, e2, e3⟩ := vbef_bit hj
      have hel : listed.getD e.on true = true := by
        rw [ho] at h3
        simp only [Option.map_some, Option.getD_some, Array.all_eq_true'] at h3
        have := h3 e (by simpa using e1)
        rw [binds_any e2] at this
        simp only [Bool.not_true, Bool.false_or] at this
        simp only [Array.getD_eq_getD_getElem?] at this ⊢
        cases hx : listed[e.on]? with
        | none => rw [hx] at this; cases this
        | some b => rw [hx] at this; simpa using this
      rcases e3 with rfl | e3
      · exact hel
      · have hlt2 := hvo.edges e e1 e2
        simp only [List.length_map, List.length_take] at hlt2
        obtain ⟨v2, hv2⟩ := exists_getElem? (l := vs) (i := e.on) (by omega)
        refine hcl e.on v2 j hv2 hel ?_
        have : ((vs.take i).map (·.before)).getD e.on 0 = v2.before := by
          rw [List.getD_eq_getElem?_getD, List.getElem?_map, List.getElem?_take_of_lt (by omega), hv2]; rfl
        rw [this] at e3; exact e3
    rw [r1, List.map_append, List.map_append, List.map_cons, List.map_cons] at hrun
    have hgv : vs.getD i default = v := getD_of_getElem? hv
    have hgf : fs.getD i default = f := getD_of_getElem? hfi
    rw [hgv, hgf] at hrun
    obtain ⟨σ1, g1, g2, g3⟩ := RunF.pull (by simp) hrun (fun g hg => by
      obtain ⟨j, hj, rfl⟩ := List.mem_map.1 hg
      obtain ⟨q1, q2⟩ := r3 j hj
      obtain ⟨g, hg'⟩ := exists_getElem? (l := fs) (i := j) (by omega)
      rw [getD_of_getElem? hg']
      rcases hpair i v f hv hfi j g q1 hg' with h | h
      · have := hbefore j h
        rw [q2] at this; cases this
      · exact h)
    rw [go_acc]
    simp only [List.reverse_cons, List.reverse_nil, List.nil_append, List.singleton_append, runAt, hv, g1]
    rw [← List.map_append, ← List.map_append, ← r2] at g3
    refine go_run hrank hlen hok hf hpair fuel _ _ σ1 (by simpa using hs) ?_ (fun k v' j hk hlk hj => ?_) g3
    · rw [r1] at hr; rw [r2]; simp only [List.length_append, List.length_cons] at hr ⊢; omega
    · rw [getD_set (by omega)] at hlk ⊢
      by_cases hji : j = i
      · rw [if_pos hji]
      · rw [if_neg hji]
        by_cases hki : k = i
        · subst hki
          rw [hv] at hk; cases hk
          exact hbefore j hj
        · rw [if_neg hki] at hlk
          exact hcl k v' j hk hlk hj
theorem map_getD {α : Type} [Inhabited α] (l : List α) : (List.range l.length).map (fun i => l.getD i default) = l := by
  apply List.ext_getElem
  · simp
  · intro i h1 h2
    simp [List.getD_eq_getElem?_getD, List.getElem?_eq_getElem h2]
theorem ordOk_rank {ops : Array Oper} (h : ordOk ops = true) (m : Region.Mode) : ∃ rank : Nat → Nat, ∀ (i : Nat) (o : Oper), ops[i]? = some o → ∀ e ∈ o.after.toList, Region.binds m e = true → e.on < ops.size ∧ rank e.on < rank i := by
  have key : ∀ (i : Nat) (o : Oper), ops[i]? = some o → ∀ e ∈ o.after.toList, e.on < ops.size ∧ ((∀ d, e.ground ≠ .gcOnly d) → e.on < i) ∧ (Region.binds .gc e = true → (Region.linearise .gc ops 0).findIdx (· == e.on) < (Region.linearise .gc ops 0).findIdx (· == i)) := by
    intro i o ho e he
    have hi : i < ops.size := by
      rcases Nat.lt_or_ge i ops.size with h | h
      · exact h
      · rw [Array.getElem?_eq_none h] at ho; cases ho
    have h1 := List.all_eq_true.1 h i (List.mem_range.2 hi)
    rw [ho] at h1
    have h2 := List.all_eq_true.1 h1 e he
    simp only [Bool.and_eq_true, decide_eq_true_eq, Bool.or_eq_true, Bool.not_eq_true'] at h2
    obtain ⟨⟨a1, a2⟩, a3⟩ := h2
    refine ⟨a1, fun hg => ?_, fun hb => ?_⟩
    · split at a2
      · rename_i d hd; exact absurd hd (hg d)
      · simpa using a2
    · rcases a3 with a3 | a3
      · rw [hb] at a3; cases a3
      · exact a3
  cases m with
  | gc => exact ⟨fun i => (Region.linearise .gc ops 0).findIdx (· == i), fun i o ho e he hb => ⟨(key i o ho e he).1, (key i o ho e he).2.2 hb⟩⟩
  | any => exact ⟨id, fun i o ho e he hb => ⟨(key i o ho e he).1, (key i o ho e he).2.1 fun d hd => by simp [Region.binds, hd] at hb⟩⟩
  | text => exact ⟨id, fun i o ho e he hb => ⟨(key i o ho e he).1, (key i o ho e he).2.1 fun d hd => by simp [Region.binds, hd] at hb⟩⟩
theorem sched_run {ops : Array Oper} {vs : List VOper} (hord : ordOk ops = true) (hlen : vs.length = ops.size) (hok : ∀ (i : Nat) (o : Oper) (v : VOper), ops[i]? = some o → vs[i]? = some v → VOperOk P ops ((vs.take i).map (·.before)) o v) (hr : runDraw callee base vs [] σ = some σ') (m : Region.Mode) (t : Nat) :
    runAt callee base vs (Region.linearise m ops t) σ = some σ' := by
  obtain ⟨fs, h1, h2⟩ := runDraw_sound hr
  have hfl := h1.len
  have hrem : rem ops.size (Array.replicate ops.size false) = List.range vs.length := by
    unfold rem
    rw [hlen, List.filter_eq_self]
    intro i hi
    have := List.mem_range.1 hi
    simp [this]
  unfold Region.linearise
  obtain ⟨rank, hrank⟩ := ordOk_rank hord m
  refine go_run hrank hlen hok hfl (fun l v f hv hf k g hk hg => h2 l v f hv hf k g (by simpa using hk) (by simpa using hg)) _ _ _ σ (by simp) (by rw [hrem]; simp [hlen]) (fun k v j hk hl _ => ?_) ?_
  · exfalso
    have hk' := lt_of_getElem? hk
    have hk2 : k < ops.size := by omega
    simp [hk2] at hl
  · rw [hrem, map_getD]
    have := map_getD fs
    rw [hfl] at this
    rw [this]; exact h1
theorem region_sound {r : Option Nat} {nf : Nat} {id : Nat} {ops : Array Oper} {vs : List VOper} {draw : Bool} {site m : Nat} (hcallee : CalleeOk P callee) (hc : cOps P ops site [] ops.toList = some (m, vs.map VOper.strip)) (hord : (draw && !ordOk ops) = false) (hC : CoreS n E σ [] a.tmps.toList [] w.heap)
    (hr : (if draw then runDraw callee base vs [] σ else runOps callee base vs σ) = some σ') (K : NextOk n base E σ' a w (Q .normal)) : (Code.region id ops draw).wpIn (Fw r) nf P Q a w := by
  obtain ⟨hl, hok⟩ := cOps_ok hc
  have hlen : vs.length = ops.size := by simpa using hl
  have hok' : ∀ (i : Nat) (o : Oper) (v : VOper), ops[i]? = some o → vs[i]? = some v → VOperOk P ops ((vs.take i).map (·.before)) o v := fun i o v ho hv => by
    have := hok i o v (by simpa using ho) hv
    simpa using this
  cases draw with
  | false =>
    simp only [Bool.false_eq_true, if_false] at hr
    refine wpIn_region ?_
    have := runOps_at (callee := callee) (base := base) vs [] σ
    rw [hr] at this
    simp only [List.nil_append, List.length_nil] at this
    rw [← hlen, List.range_eq_range']
    exact wpOps_sound (base := base) hcallee hlen hok' _ this.symm hC K
  | true =>
    simp only [if_true] at hr
    refine wpIn_region_draw fun t => ?_
    have hs : ∃ m t', Region.schedule (P.follows .mixedOrders) ops t = Region.linearise m ops t' := by
      unfold Region.schedule
      split
      · exact ⟨_, _, rfl⟩
      · exact ⟨_, _, rfl⟩
    obtain ⟨md, t', e⟩ := hs
    rw [e]
    exact wpOps_sound (base := base) hcallee hlen hok' _ (sched_run (by simpa using hord) hlen hok' hr md t') hC fun E' a' w' h1 h2 h3 h4 => K E' a' w' h1 h2 ⟨h3.os, h3.output, h3.tape⟩ h4
end
end Go.Vq
