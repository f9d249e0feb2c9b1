/- A machine of values and its tie to the model: part 7 of 7 (no law of Go is stated here). -/
import Derived.Test.YtbbpandancpibaaF6
import Derived.RangeFuncLeaves
import Derived.RowKit3
import Derived.ProofKit
import Derived.OpenShut
set_option linter.unusedVariables false
set_option linter.unusedSimpArgs false
/- How a function ends; every call (no law of Go is stated here). -/
namespace Go.Vq
theorem flat_pos {α β : Type} (f : α → List β) : ∀ (l : List α) (j : Nat) (z : β), (l.flatMap f)[j]? = some z → ∃ k i v, l[k]? = some v ∧ (f v)[i]? = some z ∧ j = ((l.take k).flatMap f).length + i
  | [], j, z, h => by simp at h
  | v :: l, j, z, h => by
    rw [List.flatMap_cons] at h
    rcases Nat.lt_or_ge j (f v).length with hj | hj
    · rw [List.getElem?_append_left hj] at h
      exact ⟨0, j, v, rfl, h, by simp⟩
    · rw [List.getElem?_append_right hj] at h
      obtain ⟨k, i, u, h1, h2, h3⟩ := flat_pos f l _ z h
      refine ⟨k + 1, i, u, by simpa using h1, h2, ?_⟩
      simp only [List.take_succ_cons, List.flatMap_cons, List.length_append]
      omega
theorem flat_len2 {α γ β δ : Type} (f : α → List β) (g : γ → List δ) : ∀ (l : List α) (m : List γ), l.length = m.length → (∀ (k : Nat) (v : α) (x : γ), l[k]? = some v → m[k]? = some x → (f v).length = (g x).length) → (l.flatMap f).length = (m.flatMap g).length
  | [], [], _, _ => rfl
  | [], _ :: _, h, _ => by simp at h
  | _ :: _, [], h, _ => by simp at h
  | v :: l, x :: m, h, hc => by
    have h1 := hc 0 v x rfl rfl
    have h2 := flat_len2 f g l m (by simpa using h) fun k v x hv hx => hc (k + 1) v x (by simpa using hv) (by simpa using hx)
    rw [List.flatMap_cons, List.flatMap_cons, List.length_append, List.length_append, h1, h2]
def packV : List V → V
  | [v] => v
  | vs => .tup vs
def packHome (N : Nat) (us : List V) : Home → Home
  | .slot s i => if N ≤ s then .slot N (((us.take (s - N)).flatMap V.cells).length + i) else .slot s i
  | h => h
section
variable {P : Program} {n base : Nat} {E E' E2 : Env} {σ σ' : St} {hs : List V} {ts xs : List Value} {H H' H2 : Array Go.Obj}
variable {a : Act} {w : World} {G : VProg}
/-- Results in hand as one value. -/
theorem CoreS.pack {us : List V} {ys : List Value} (hC : CoreS n E σ us ts ys H) (hu : ∀ u ∈ us, (u.leaf = true ∨ ∃ cs, u = .agg cs) ∧ ∀ g, u ≠ .gone g) :
    ∃ E1, CoreS n E1 σ [packV us] ts [packX ys] H ∧ Grow base E H E1 H ∧ ∀ z ∈ (packV us).leaves, z ∈ us.flatMap V.leaves := by
  have hl := hC.hl
  by_cases h1 : ∃ u y, us = [u] ∧ ys = [y]
  · obtain ⟨u, y, rfl, rfl⟩ := h1
    exact ⟨E, hC, Grow.refl _ _ _, fun z hz => List.mem_flatMap.2 ⟨u, by simp, hz⟩⟩
  · have hp : packV us = .tup us ∧ packX ys = .tuple ys.toArray := by
      cases us with
      | nil => cases ys with
        | nil => exact ⟨rfl, rfl⟩
        | cons => simp at hl
      | cons u us => cases ys with
        | nil => simp at hl
        | cons y ys => cases us with
          | nil => cases ys with
            | nil => exact absurd ⟨u, y, rfl, rfl⟩ h1
            | cons => simp at hl
          | cons u2 us => cases ys with
            | nil => simp at hl
            | cons => exact ⟨rfl, rfl⟩
    rw [hp.1, hp.2]
    have hS : ∀ (k : Nat) (u : V) (y : Value), us[k]? = some u → ys[k]? = some y → SlotRel E (σ.slots ++ us) σ.objs (ts ++ ys) H (n + k) u y := by
      intro k u y hk hy
      exact hC.core.slot (n + k) u y (by rw [List.getElem?_append_right (by rw [hC.sl]; omega), hC.sl, Nat.add_sub_cancel_left]; exact hk) (by rw [List.getElem?_append_right (by rw [hC.tl]; omega), hC.tl, Nat.add_sub_cancel_left]; exact hy)
    have hcl : ∀ u ∈ us, u.cells = u.leaves := by
      intro u hm
      rcases (hu u hm).1 with h | ⟨cs, rfl⟩
      · rw [cells_leaf h, leaves_leaf h]
      · rfl
    have hsh : ∀ (k : Nat) (u : V) (y : Value), us[k]? = some u → ys[k]? = some y → Shape1 u y ∧ vcells y = vleaves y := by
      intro k u y hk hy
      have hS1 := hS k u y hk hy
      obtain ⟨h2, h3⟩ := hu u (List.mem_of_getElem? hk)
      rcases h2 with h | ⟨cs, rfl⟩
      · have hx := leaf_shape h h3 hS1.1
        have hax : aggX y = false := by cases y <;> first | rfl | simp [leafX] at hx
        exact ⟨(shape1_leaf h).2 hax, by rw [vcells_leaf hax, vleaves_leaf hx]⟩
      · obtain ⟨zs, rfl, h4⟩ := hS1.1
        exact ⟨⟨zs, rfl, h4⟩, rfl⟩
    have hcnt : ∀ (k : Nat) (u : V) (y : Value), us[k]? = some u → ys[k]? = some y → u.cells.length = (vcells y).length := fun k u y hk hy => shape1_len (hsh k u y hk hy).1
    have hoff : ∀ k, ((us.take k).flatMap V.cells).length = ((ys.take k).flatMap vcells).length := by
      intro k
      refine flat_len2 _ _ _ _ (by simp [hl]) fun j v x hv hx => ?_
      have hj := lt_of_getElem? hv
      simp only [List.length_take] at hj
      rw [List.getElem?_take_of_lt (by omega)] at hv hx
      exact hcnt j v x hv hx
    have := CoreS.join (hs := []) (xs := []) (vs := us) (ys := ys) (p := .tup us) (xp := .tuple ys.toArray) (f := packHome n us) hC rfl ?_ ?_ ?_ ?_ ?_
    · refine ⟨_, this, Grow.retag _ _ _ _, fun z hz => ?_⟩
      obtain ⟨u, hm, hz⟩ := List.mem_flatMap.1 (show z ∈ us.flatMap V.cells from hz)
      rw [hcl u hm] at hz
      exact List.mem_flatMap.2 ⟨u, hm, hz⟩
    · exact ⟨ys.toArray, rfl, by simpa using hl, fun i v x hv hx => (hsh i v x hv (by simpa using hx)).1⟩
    · intro j u y hju hjy
      obtain ⟨k, i, v, e1, e2, e3⟩ := flat_pos V.cells us j u hju
      obtain ⟨x, hx⟩ := exists_getElem? (l := ys) (i := k) (by have := lt_of_getElem? e1; omega)
      have hil := lt_of_getElem? e2
      rw [hcnt k v x e1 hx] at hil
      obtain ⟨z, hz⟩ := exists_getElem? hil
      have h5 := flat_at vcells hx hz
      rw [← hoff, ← e3] at h5
      have hy2 : (ys.flatMap vcells)[j]? = some y := by simpa [vleaves] using hjy
      rw [hy2] at h5; cases h5
      refine ⟨k, i, v, x, e1, hx, by rw [← hcl v (List.mem_of_getElem? e1)]; exact e2, by rw [← (hsh k v x e1 hx).2]; exact hz, fun _ => ?_⟩
      simp only [packHome, List.length_nil, Nat.add_zero]
      rw [if_pos (by omega), Nat.add_sub_cancel_left, e3]
    · intro u hm
      obtain ⟨v, hv, hz⟩ := List.mem_flatMap.1 (show u ∈ us.flatMap V.cells from hm)
      exact ⟨v, hv, by rw [← hcl v hv]; exact hz⟩
    · intro s i h
      simp only [List.length_nil, Nat.add_zero] at h
      simp only [packHome]; rw [if_neg (by omega)]
    · intro o i; rfl
theorem ren_zero {f : Nat → Option Nat} {u u' : V} (h : V.ren f (zero1 u) = some u') : zero1 u' = u' := by
  cases u <;> simp only [zero1, V.ren, Option.some.injEq, reduceCtorEq, Option.map_eq_some_iff] at h <;> first
    | (subst h; rfl)
    | (obtain ⟨_, _, rfl⟩ := h; rfl)
theorem Grow.sub {ids : List Nat} {N : Nat} (hids : ids.take base = List.range base) : Grow base E H (E.sub ids N) H := by
  refine ⟨Nat.le_refl _, fun b i h => ⟨Env.sub_imm h, rfl⟩, fun b _ h => ⟨by simp only [Env.sub, h, subTag], rfl⟩, fun b h => ⟨by simp only [Env.sub, h, subTag], rfl⟩, fun b m h => ⟨by simp only [Env.sub, h, subTag], rfl⟩, fun o ho => ?_⟩
  have : ids[o]? = some o := by
    have h1 : (ids.take base)[o]? = some o := by rw [hids]; simp [ho]
    rw [List.getElem?_take_of_lt ho] at h1; exact h1
  simp only [Env.sub, List.getD_eq_getElem?_getD, this, Option.getD_some]
theorem finish_sound {fn : Func} {vf : VFunc} {r : V} {os : List Obj} (hres : fn.results.toList.mapM (cRes P) = some vf.results) (hn : vf.ntmps = n) (hC : CoreS n E σ [] a.tmps.toList [] w.heap) (hf : finish vf base σ = some (r, os)) :
    ∃ x E', (results fn a.tmps).run P w = .ok x w ∧ Core 0 E' [r] (os.map some) [x] w.heap ∧ Grow base E w.heap E' w.heap ∧ ∀ (k : Nat) (cs : List V), os[k]? = some (.cells cs) → ∀ u ∈ cs, zero1 u = u := by
  unfold finish at hf
  split at hf
  · rename_i σ' hrun
    split at hf
    · rename_i ids hids
      split at hf
      · rename_i hcnd
        obtain ⟨hnd, htake⟩ := hcnd
        split at hf
        · rename_i r' os' hren hos
          cases hf
          subst hn
          have hC1 := hC.extend
          -- the act with one slot more
          let a1 : Act := { a with tmps := a.tmps.push undef }
          have ht1 : a1.tmps.toList = a.tmps.toList ++ [undef] := by simp [a1]
          rw [← ht1] at hC1
          unfold resProg at hrun
          obtain ⟨E1, σ1, us, ys, b1, b2, b3, b4, b5, b6, b7⟩ := getRess_sound (a := a1) (base := base) hres hC1 hrun
          simp only [List.nil_append] at b1
          obtain ⟨b3, hval⟩ := gTheres_run b3
          simp only [Prog.run, Option.some.injEq] at b3
          have hrs : σ'.slot vf.ntmps = packV us := by
            rw [← b3]
            have hlt : vf.ntmps < σ1.slots.length := by rw [b1.sl]; omega
            have : (σ1.setS vf.ntmps (packV us)).slot vf.ntmps = packV us := by
              simp only [St.setS, St.slot, List.getD_eq_getElem?_getD, List.getElem?_set_self hlt, Option.getD_some]
            rw [← this]
            cases us with
            | nil => rfl
            | cons u us => cases us <;> rfl
          have hobjs : σ'.objs = σ1.objs := by rw [← b3]; rfl
          rw [hrs] at hren
          obtain ⟨E2, c1, c2, c3⟩ := b1.pack (base := base) b7
          have hcore := c1.core
          have hrens : rens (findIdx ids) [packV us] = some [r] := by simp [rens, hren]
          have hmg := mapM_get hos
          obtain ⟨m1, m2⟩ := hmg
          have hobj : ∀ (k o : Nat), ids[k]? = some o → ∃ cs cs', σ1.objs[o]? = some (some (.cells cs)) ∧ os[k]? = some (.cells cs') ∧ rens (findIdx ids) (cs.map zero1) = some cs' := by
            intro k o ho
            obtain ⟨y, h1, h2⟩ := m2 k o ho
            obtain ⟨x, h3, h4⟩ := Option.bind_eq_some_iff.1 h1
            obtain ⟨cs, cs', rfl, rfl, h5⟩ := objRen_cells h4
            have h6 := obj_some h3
            rw [hobjs] at h6
            exact ⟨cs, cs', h6, h2, h5⟩
          have hsub := hcore.sub (ids := ids) (objs' := os.map some) (hs := [packV us]) (hs' := [r]) (by rw [c1.sl, c1.tl]) hnd (by simp [m1]) (fun k o ho => by
            obtain ⟨cs, cs', h1, h2, h3⟩ := hobj k o ho
            exact ⟨cs, cs', h1, by rw [List.getElem?_map, h2]; rfl, h3⟩) hrens (fun v hv u hu h g sz i off e => by
            simp only [List.mem_singleton] at hv
            subst hv
            obtain ⟨z, hz, hg⟩ := hval u (c3 u hu) h g sz i off e
            obtain ⟨d4, _⟩ := ct_real' (hs := [packV us]) c1.sl hz (by rintro g rfl; cases hg)
            exact ⟨z, d4, hg⟩)
          refine ⟨packX ys, _, ?_, hsub, (b2.trans c2).trans (Grow.sub htake), fun k cs hk u hu => ?_⟩
          · refine results_run b5 fun i rv y hrv hy => ?_
            have := b6 i rv y hrv hy
            -- a result's slot is a real one
            cases rv with
            | tmp t =>
              simp only [ResIs] at this ⊢
              rw [← this]
              simp only [a1, Array.getD_eq_getD_getElem?, Array.getElem?_push]
              split
              · rename_i e; subst e; simp
              · rfl
            | cell c t =>
              obtain ⟨ad, e1, e2⟩ := this
              refine ⟨ad, ?_, e2⟩
              rw [← e1]
              simp only [a1, Array.getD_eq_getD_getElem?, Array.getElem?_push]
              split
              · rename_i e; subst e; simp
              · rfl
          · obtain ⟨o, ho⟩ := exists_getElem? (l := ids) (i := k) (by have := lt_of_getElem? hk; omega)
            obtain ⟨cs0, cs', h1, h2, h3⟩ := hobj k o ho
            rw [hk] at h2; cases h2
            obtain ⟨i, hi⟩ := List.mem_iff_getElem?.1 hu
            obtain ⟨q1, q2⟩ := rens_get h3
            obtain ⟨u0, hu0⟩ := exists_getElem? (l := cs0.map zero1) (i := i) (by have := lt_of_getElem? hi; omega)
            have h4 := q2 i u0 u hu0 hi
            rw [List.getElem?_map] at hu0
            obtain ⟨u1, _, rfl⟩ := Option.map_eq_some_iff.1 hu0
            exact ren_zero h4
        · cases hf
      · cases hf
    · cases hf
  · cases hf
end
end Go.Vq
/- Every call does what the V-level machine says (no law of Go is stated here). -/
namespace Go.Vq
section
variable {n : Nat} {E : Env} {slots : List V} {objs : List (Option Obj)} {vals : List Value} {H : Array Go.Obj}
theorem Core.gones (hC : Core n E slots objs vals H) : ∀ m : Nat, Core n E (slots ++ List.replicate m (.gone 0)) objs (vals ++ List.replicate m undef) H
  | 0 => by simpa using hC
  | m + 1 => by
    have h := (hC.gones m).push (v := .gone 0) (x := undef) ⟨trivial, fun i u y hu _ => by
      cases i with
      | zero => simp [V.leaves] at hu; subst hu; trivial
      | succ i => simp [V.leaves] at hu⟩ (by intro r hr; simp [V.refs, V.leaves, V.refs1] at hr)
    rw [List.replicate_succ', List.replicate_succ', ← List.append_assoc, ← List.append_assoc]
    exact h
theorem nones_get {o m : Nat} {x : Obj} : (objs ++ List.replicate m none)[o]? = some (some x) ↔ objs[o]? = some (some x) := by
  rcases Nat.lt_or_ge o objs.length with h | h
  · rw [List.getElem?_append_left h]
  · rw [List.getElem?_append_right h, List.getElem?_eq_none h]
    constructor
    · intro h1
      rw [List.getElem?_replicate] at h1
      split at h1 <;> cases h1
    · intro h1; cases h1
theorem ct_nones {m : Nat} {h : Home} : ct slots (objs ++ List.replicate m none) h = ct slots objs h := by
  cases h with
  | slot => rfl
  | obj o i =>
    have h1 := @nones_get objs o m
    simp only [ct]
    cases hx : objs[o]? with
    | none =>
      cases hy : (objs ++ List.replicate m none)[o]? with
      | none => rfl
      | some y => cases y with
        | none => rfl
        | some y => rw [hy] at h1; have := (h1 (x := y)).1 rfl; rw [hx] at this; cases this
    | some x => cases x with
      | none =>
        cases hy : (objs ++ List.replicate m none)[o]? with
        | none => rfl
        | some y => cases y with
          | none => rfl
          | some y => rw [hy] at h1; have := (h1 (x := y)).1 rfl; rw [hx] at this; cases this
      | some x => rw [(h1 (x := x)).2 hx]
theorem Core.nones (hC : Core n E slots objs vals H) (m : Nat) : Core n E slots (objs ++ List.replicate m none) vals H := by
  have hal : ∀ o, alive objs o → alive (objs ++ List.replicate m none) o := fun o ⟨x, hx⟩ => ⟨x, nones_get.2 hx⟩
  have hmv : ∀ {h : Home} {u : V} {y : Value}, RelV E slots objs vals H h u y → RelV E slots (objs ++ List.replicate m none) vals H h u y := by
    intro h u y hR
    refine hR.move (fun _ _ h => ⟨h, rfl⟩) (fun _ b hb => ⟨hb, rfl⟩) (fun _ b k hb => ⟨hb, rfl⟩) (fun o _ h => ⟨rfl, hal o h⟩) (fun o _ _ _ h => ⟨rfl, hal o h⟩) fun r _ sz hv => ⟨?_, rfl⟩
    obtain ⟨w, h1, h2⟩ := hv
    rw [ct_nones] at h1
    exact ⟨w, h1, h2⟩
  refine ⟨hC.len, hC.real, fun s v x hv hx => ⟨(hC.slot s v x hv hx).1, fun i u y hu hy => hmv ((hC.slot s v x hv hx).2 i u y hu hy)⟩, fun o cs ho => ?_, hC.fresh, fun s v hv r hr => ?_⟩
  · obtain ⟨arr, T, f, g1, g2, g3, g4, g5, g6⟩ := hC.obj o cs (nones_get.1 ho)
    exact ⟨arr, T, f, g1, g2, g3, g4, fun i u y hu hy => hmv (g5 i u y hu hy), g6⟩
  · have := hC.refs s v hv r hr
    exact ⟨this.1, by rw [ct_nones]; exact this.2⟩
theorem Core.more {m : Nat} (hC : Core n E slots objs vals H) (h1 : n ≤ m) (h2 : m ≤ slots.length) : Core m E slots objs vals H :=
  ⟨hC.len, h2, hC.slot, hC.obj, hC.fresh, fun s v hv r hr => ⟨fun t i e => Nat.lt_of_lt_of_le ((hC.refs s v hv r hr).1 t i e) h1, (hC.refs s v hv r hr).2⟩⟩
theorem start_core {vf : VFunc} {args : List V} {os : List Obj} (hC : Core 0 E args (os.map some) vals H) (hl : args.length ≤ vf.ntmps) :
    CoreS vf.ntmps E (start vf args os) [] (vals ++ List.replicate (vf.ntmps - args.length) undef) [] H := by
  have hlen := hC.len
  refine ⟨by simp [start]; omega, by simp [← hlen]; omega, ?_⟩
  simp only [List.append_nil]
  exact ((hC.gones _).nones _).more (Nat.zero_le _) (by simp; omega)
end
theorem finish_zero {vf : VFunc} {base : Nat} {σ : St} {r : V} {os : List Obj} (hf : finish vf base σ = some (r, os)) (k : Nat) (cs : List V) (hk : os[k]? = some (.cells cs)) : ∀ u ∈ cs, zero1 u = u := by
  intro u hu
  unfold finish at hf
  split at hf
  · split at hf
    · rename_i ids hids
      split at hf
      · split at hf
        · rename_i r' os' hren hos
          cases hf
          obtain ⟨m1, m2⟩ := mapM_get hos
          obtain ⟨o, ho⟩ := exists_getElem? (l := ids) (i := k) (by have := lt_of_getElem? hk; omega)
          obtain ⟨y, h1, h2⟩ := m2 k o ho
          rw [hk] at h2; cases h2
          obtain ⟨x, h3, h4⟩ := Option.bind_eq_some_iff.1 h1
          obtain ⟨cs0, cs', rfl, e, h5⟩ := objRen_cells h4
          cases e
          obtain ⟨i, hi⟩ := List.mem_iff_getElem?.1 hu
          obtain ⟨q1, q2⟩ := rens_get h5
          obtain ⟨u0, hu0⟩ := exists_getElem? (l := cs0.map zero1) (i := i) (by have := lt_of_getElem? hi; omega)
          have h6 := q2 i u0 u hu0 hi
          rw [List.getElem?_map] at hu0
          obtain ⟨u1, _, rfl⟩ := Option.map_eq_some_iff.1 hu0
          exact ren_zero h6
        · cases hf
      · cases hf
    · cases hf
  · cases hf
/-- A V-level program that says what the model's functions do. -/
structure GOk (P : Program) (G : VProg) : Prop where
  code : ∀ f vf, G f = some (.code vf) → ∃ fn, P.funcs[f]? = some fn ∧ cFunc P fn = some vf.strip ∧ (fn.name == "runtime.NumGoroutine") = false
  prim : ∀ f run, G f = some (.prim run) → ∀ args objs r os, run args objs = some (r, os) → EnterOk P f ∧ Behaves P f args objs r os
  iter : ∀ f run, G f = some (.iter run) → IterOk P f run
/-- The marks are come to, one after the other. -/
theorem leaves_marks {F : Fence} {n : Nat} {P : Program} {fn : Func} {tmps : Array Value} {R : Ending → World → Prop} : ∀ (ms : List Nat) (w : World), ms.Nodup → (∀ D ∈ ms, w.heap[D]? = some (.deferred (some []))) →
    (∀ w' : World, w'.heap.size = w.heap.size → (∀ b, b ∉ ms → w'.heap[b]? = w.heap[b]?) → w'.os = w.os → w'.output = w.output → w'.tape = w.tape → ∃ v, (results fn tmps).run P w' = .ok v w' ∧ R (.returned v) w') →
    LeavesInM F n P fn tmps R (ms.map fun D => { target := .collected D, args := #[] }) .returning w
  | [], w, _, _, h => by
    obtain ⟨v, h1, h2⟩ := h w rfl (fun _ _ => rfl) rfl rfl rfl
    exact ⟨v, h1, h2⟩
  | D :: ms, w, hn, hd, h => by
    have hD := hd D (by simp)
    refine ⟨by simp, .inl ⟨D, _, rfl, run_takeDeferred hD, leaves_marks ms _ (List.nodup_cons.1 hn).2 (fun D' h' => ?_) fun w' h1 h2 h3 h4 h5 => ?_⟩⟩
    · refine (World.putObj_heap_other ?_).trans (hd D' (List.mem_cons_of_mem _ h'))
      rintro rfl
      exact (List.nodup_cons.1 hn).1 h'
    · refine h w' (by simpa using h1) (fun b hb => ?_) h3 h4 h5
      rw [List.mem_cons, not_or] at hb
      exact (h2 b hb.2).trans (World.putObj_heap_other hb.1)
theorem call_sound {P : Program} {G : VProg} (hG : GOk P G) : ∀ M : Nat, CalleeOk P (call G M) := by
  intro M
  induction M using Nat.strongRecOn with
  | _ M ih =>
    intro f args objs r os hcall
    unfold call callWith at hcall
    split at hcall
    · rename_i vf hf
      obtain ⟨fn, h1, h2, h3⟩ := hG.code f vf hf
      unfold cFunc at h2
      simp only [Option.bind_eq_bind, Option.pure_def] at h2
      obtain ⟨c, hb, h2⟩ := Option.bind_eq_some_iff.1 h2
      obtain ⟨⟨m, body⟩, hcc, h2⟩ := Option.bind_eq_some_iff.1 h2
      obtain ⟨res, hres, h2⟩ := Option.bind_eq_some_iff.1 h2
      simp only [Option.some.injEq] at h2
      have e1 : vf.ntmps = fn.ntmps := by have := congrArg VFunc.ntmps h2; simpa [VFunc.strip] using this.symm
      have e2 : vf.results = res := by have := congrArg VFunc.results h2; simpa [VFunc.strip] using this.symm
      have e3 : body = vf.body.strip := by have := congrArg VFunc.body h2; simpa [VFunc.strip] using this
      subst e2 e3
      split at hcall
      · rename_i hargs
        obtain ⟨hna, hnt⟩ := hargs
        have hfin : ∃ out σ', exec G M objs.length vf.body (start vf args objs) = some (out, σ') ∧ (out = .normal ∨ out = .ret) ∧ finish vf objs.length σ' = some (r, os) := by
          split at hcall
          · exact ⟨_, _, by assumption, .inl rfl, hcall⟩
          · exact ⟨_, _, by assumption, .inr rfl, hcall⟩
          · cases hcall
        obtain ⟨out, σ', hexec, hout, hfin⟩ := hfin
        have hent : EnterOk P f := ⟨fn, h1, by rw [hb]; rfl, h3⟩
        cases M with
        | zero => simp only [exec] at hexec; cases hexec
        | succ k =>
          simp only [exec] at hexec
          change step (call G k) (itersOf G) (exec G k) objs.length vf.body (start vf args objs) = some (out, σ') at hexec
          have hcallee : ∀ j, j ≤ k → CalleeOk P (call G j) := fun j hj => ih j (by omega)
          refine ⟨hent, finish_zero hfin, fun E vals w hcore => ?_⟩
          have hst := start_core (vf := vf) hcore (by omega)
          have hlen := hcore.len
          refine (callsIn_fw (r := none) (n := 0)).1 (callsIn_of_wp_marks h1 hb trivial ?_)
          have htm : (vals.toArray ++ Array.replicate (fn.ntmps - vals.toArray.size) undef).toList = vals ++ List.replicate (vf.ntmps - args.length) undef := by simp [e1, hlen]
          rw [← htm] at hst
          refine code_sound (base := objs.length) (ro := none) (nf := 0) (Q := bodyPostM (Fw none) 0 P fn (RetOk objs.length E w r os)) hcallee hG.iter c hcc (fun _ => rfl) (Nat.le_refl _) (a := { tmps := vals.toArray ++ Array.replicate (fn.ntmps - vals.toArray.size) undef, defers := [] }) hexec hst fun E1 a1 w1 c1 c2 c3 c4 => ?_
          obtain ⟨ms, hms, hnd, hD⟩ := c4
          have hle : LeavesInM (Fw none) 0 P fn a1.tmps (RetOk objs.length E w r os) a1.defers .returning w1 := by
            simp only [List.append_nil] at hms
            rw [hms]
            refine leaves_marks ms w1 hnd (fun D h => (hD D h).2.2) fun w' q1 q2 q3 q4 q5 => ?_
            have c1' : CoreS vf.ntmps E1 σ' [] a1.tmps.toList [] w'.heap := by
              have h0 := c1.core
              refine ⟨c1.sl, c1.tl, h0.change rfl (fun b i hi => ⟨hi, ?_⟩) (fun b t ht hc => ⟨ht, ?_⟩) (fun b hb => h0.fresh b (by rw [← q1]; exact hb))⟩
              · unfold cellAt
                rw [q2 b fun h => by have := (hD b h).2.1; simp [Env.imm, this] at hi]
              · refine q2 b fun h => ?_
                have := (hD b h).2.1
                rw [ht] at this
                rcases hc with ⟨o, e⟩ | ⟨h, e | ⟨m, e⟩, _⟩ <;> rw [e] at this <;> cases this
            have c2' : Grow objs.length E w.heap E1 w'.heap := by
              have hsame : ∀ b, b < w.heap.size → w'.heap[b]? = w1.heap[b]? := fun b hb => q2 b fun h => by have := (hD b h).1; omega
              have hlt : ∀ b, E.tag b ≠ .other → b < w.heap.size := fun b h => by
                rcases Nat.lt_or_ge b w.heap.size with h1 | h1
                · exact h1
                · exact absurd (hcore.fresh b h1) h
              refine ⟨by rw [q1]; exact c2.size, fun b i hi => ?_, fun b hb ho => ⟨(c2.other b hb ho).1, (hsame b hb).trans (c2.other b hb ho).2⟩, fun b hi => ⟨(c2.immT b hi).1, (hsame b (hlt b (by rw [hi]; simp))).trans (c2.immT b hi).2⟩,
                fun b k hi => ⟨(c2.lentT b k hi).1, (hsame b (hlt b (by rw [hi]; simp))).trans (c2.lentT b k hi).2⟩, c2.addr⟩
              refine ⟨(c2.imm b i hi).1, ?_⟩
              unfold cellAt
              rw [hsame b (hlt b (by intro e; simp [Env.imm, e] at hi))]
              exact (c2.imm b i hi).2
            obtain ⟨x, E2, d1, d2, d3, _⟩ := finish_sound (base := objs.length) hres rfl c1' hfin
            exact ⟨x, d1, E2, d2, c2'.trans d3, ⟨q3.trans c3.os, q4.trans c3.output, q5.trans c3.tape⟩⟩
          rcases hout with rfl | rfl <;> exact hle
      · cases hcall
    · rename_i run hf
      exact hG.prim f run hf args objs r os hcall
    · cases hcall
    · cases hcall
end Go.Vq
/- A V-level program out of a program of the model's (no law of Go is stated here). -/
namespace Go.Vq
/-- What is kept at each loop's head, block's end, loop over an iterator, in the order in which they stand. -/
abbrev Keeps := List (Option (List Nat))
def VCode.keep : VCode → Keeps → VCode × Keeps
  | .seq a b, ks => let r := a.keep ks; let q := b.keep r.2; (.seq r.1 q.1, q.2)
  | .cond c a b, ks => let r := a.keep ks; let q := b.keep r.2; (.cond c r.1 q.1, q.2)
  | .block i _ a, ks => let r := a.keep ks.tail; (.block i (ks.headD none) r.1, r.2)
  | .loop _ a, ks => let r := a.keep ks.tail; (.loop (ks.headD none) r.1, r.2)
  | .range x ps s _ a b, ks => let r := a.keep ks.tail; let q := b.keep r.2; (.range x ps s (ks.headD none) r.1 q.1, q.2)
  | c, ks => (c, ks)
def VOper.setAp (ap : FuncId → Bool) (o : VOper) : VOper := match o.op with
  | .call _ f s as => { o with op := .call (ap f) f s as }
  | _ => o
/-- Boxes that are never written again. -/
def VOper.setIb (o : VOper) : VOper := match o.op with
  | .box s n x => { o with op := .ibox s n x }
  | _ => o
def VCode.setIb : VCode → VCode
  | .region ops d => .region (ops.map VOper.setIb) d
  | .seq a b => .seq a.setIb b.setIb
  | c => c
/-- Which calls hang on nothing that they are given. -/
def VCode.setAp (ap : FuncId → Bool) : VCode → VCode
  | .region ops d => .region (ops.map (VOper.setAp ap)) d
  | .seq a b => .seq (a.setAp ap) (b.setAp ap)
  | .cond c a b => .cond c (a.setAp ap) (b.setAp ap)
  | .block i k a => .block i k (a.setAp ap)
  | .loop k a => .loop k (a.setAp ap)
  | .range x ps s k a b => .range x ps s k (a.setAp ap) (b.setAp ap)
  | c => c
theorem keep_strip : ∀ (c : VCode) (ks : Keeps), (c.keep ks).1.strip = c.strip
  | .skip, ks => rfl
  | .region .., ks => rfl
  | .seq a b, ks => by simp only [VCode.keep, VCode.strip, keep_strip a, keep_strip b]
  | .cond c a b, ks => by simp only [VCode.keep, VCode.strip, keep_strip a, keep_strip b]
  | .block i _ a, ks => by simp only [VCode.keep, VCode.strip, keep_strip a]
  | .loop k a, ks => by simp only [VCode.keep, VCode.strip, keep_strip a]
  | .range x ps s k a b, ks => by simp only [VCode.keep, VCode.strip, keep_strip a, keep_strip b]
  | .exit .., ks => rfl
  | .ret, ks => rfl
  | .bad, ks => rfl
theorem setAp_oper (ap : FuncId → Bool) (o : VOper) : (o.setAp ap).strip = o.strip := by
  unfold VOper.setAp
  split
  · rename_i h; simp only [VOper.strip, h, VOp.strip]
  · rfl
theorem setIb_oper (o : VOper) : o.setIb.strip = o.strip := by
  unfold VOper.setIb
  split
  · rename_i h; simp only [VOper.strip, h, VOp.strip]
  · rfl
theorem setIb_strip : ∀ c : VCode, c.setIb.strip = c.strip
  | .skip => rfl
  | .region ops d => by
    simp only [VCode.setIb, VCode.strip, List.map_map]
    congr 1
    exact List.map_congr_left fun o _ => setIb_oper o
  | .seq a b => by simp only [VCode.setIb, VCode.strip, setIb_strip a, setIb_strip b]
  | .cond c a b => rfl
  | .block i k a => rfl
  | .loop k a => rfl
  | .range x ps s k a b => rfl
  | .exit .. => rfl
  | .ret => rfl
  | .bad => rfl
theorem setAp_strip (ap : FuncId → Bool) : ∀ c : VCode, (c.setAp ap).strip = c.strip
  | .skip => rfl
  | .region ops d => by
    simp only [VCode.setAp, VCode.strip, List.map_map]
    congr 1
    exact List.map_congr_left fun o _ => setAp_oper ap o
  | .seq a b => by simp only [VCode.setAp, VCode.strip, setAp_strip ap a, setAp_strip ap b]
  | .cond c a b => by simp only [VCode.setAp, VCode.strip, setAp_strip ap a, setAp_strip ap b]
  | .block i k a => by simp only [VCode.setAp, VCode.strip, setAp_strip ap a]
  | .loop k a => by simp only [VCode.setAp, VCode.strip, setAp_strip ap a]
  | .range x ps s k a b => by simp only [VCode.setAp, VCode.strip, setAp_strip ap a, setAp_strip ap b]
  | .exit .. => rfl
  | .ret => rfl
  | .bad => rfl
section
variable {P : Program}
theorem strip_strip (v : VOp) : v.strip.strip = v.strip := by cases v <;> rfl
theorem cOps_strip {all : Array Oper} : ∀ {os : List Oper} {vs : List VOper} {site m : Nat} {done : List Nat}, cOps P all site done os = some (m, vs) → vs.map VOper.strip = vs
  | [], vs, site, m, done, h => by simp only [cOps, Option.some.injEq, Prod.mk.injEq] at h; obtain ⟨_, rfl⟩ := h; rfl
  | o :: os, vs, site, m, done, h => by
    simp only [cOps, Option.bind_eq_bind, Option.pure_def] at h
    obtain ⟨g, hg, h⟩ := Option.bind_eq_some_iff.1 h
    split at h
    · cases h
    · obtain ⟨⟨m', rest⟩, hrest, h⟩ := Option.bind_eq_some_iff.1 h
      simp only [Option.some.injEq, Prod.mk.injEq] at h
      obtain ⟨_, rfl⟩ := h
      simp only [List.map_cons, cOps_strip hrest, VOper.strip, strip_strip]
theorem cCode_strip : ∀ (c : Code) {r : Bool} {site m : Nat} {v : VCode}, cCode P r site c = some (m, v) → v.strip = v
  | .skip, r, site, m, v, h => by simp only [cCode, Option.some.injEq, Prod.mk.injEq] at h; obtain ⟨_, rfl⟩ := h; rfl
  | .region id ops draw, r, site, m, v, h => by
    simp only [cCode, Option.bind_eq_bind, Option.pure_def] at h
    obtain ⟨⟨m1, l1⟩, h1, h⟩ := Option.bind_eq_some_iff.1 h
    split at h
    · cases h
    cases h
    simp only [VCode.strip, cOps_strip h1]
  | .seq x y, r, site, m, v, h => by
    simp only [cCode, Option.bind_eq_bind, Option.pure_def] at h
    obtain ⟨⟨m1, l1⟩, h1, h⟩ := Option.bind_eq_some_iff.1 h
    obtain ⟨⟨m2, l2⟩, h2, h⟩ := Option.bind_eq_some_iff.1 h
    cases h
    simp only [VCode.strip, cCode_strip x h1, cCode_strip y h2]
  | .cond c x y, r, site, m, v, h => by
    simp only [cCode, Option.bind_eq_bind, Option.pure_def] at h
    obtain ⟨c', _, h⟩ := Option.bind_eq_some_iff.1 h
    obtain ⟨⟨m1, l1⟩, h1, h⟩ := Option.bind_eq_some_iff.1 h
    obtain ⟨⟨m2, l2⟩, h2, h⟩ := Option.bind_eq_some_iff.1 h
    cases h
    simp only [VCode.strip, cCode_strip x h1, cCode_strip y h2]
  | .block id x, r, site, m, v, h => by
    simp only [cCode, Option.bind_eq_bind, Option.pure_def] at h
    obtain ⟨⟨m1, l1⟩, h1, h⟩ := Option.bind_eq_some_iff.1 h
    cases h
    simp only [VCode.strip, cCode_strip x h1]
  | .loop x, r, site, m, v, h => by
    simp only [cCode, Option.bind_eq_bind, Option.pure_def] at h
    obtain ⟨⟨m1, l1⟩, h1, h⟩ := Option.bind_eq_some_iff.1 h
    cases h
    simp only [VCode.strip, cCode_strip x h1]
  | .scope x, r, site, m, v, h => by simp only [cCode] at h; exact cCode_strip x h
  | .exit id, r, site, m, v, h => by simp only [cCode, Option.some.injEq, Prod.mk.injEq] at h; obtain ⟨_, rfl⟩ := h; rfl
  | .ret, r, site, m, v, h => by simp only [cCode, Option.some.injEq, Prod.mk.injEq] at h; obtain ⟨_, rfl⟩ := h; rfl
  | .rangeFunc g ps x y, false, site, m, v, h => by
    simp only [cCode, Option.bind_eq_bind, Option.pure_def] at h
    obtain ⟨c', _, h⟩ := Option.bind_eq_some_iff.1 h
    obtain ⟨⟨m1, l1⟩, h1, h⟩ := Option.bind_eq_some_iff.1 h
    obtain ⟨⟨m2, l2⟩, h2, h⟩ := Option.bind_eq_some_iff.1 h
    cases h
    simp only [VCode.strip, cCode_strip x h1, cCode_strip y h2]
  | .rangeFunc .., true, site, m, v, h => by simp only [cCode, Option.some.injEq, Prod.mk.injEq] at h; obtain ⟨_, rfl⟩ := h; rfl
  | .label .., r, site, m, v, h => by cases r <;> (simp only [cCode, Option.some.injEq, Prod.mk.injEq] at h; obtain ⟨_, rfl⟩ := h; rfl)
  | .goto .., r, site, m, v, h => by cases r <;> (simp only [cCode, Option.some.injEq, Prod.mk.injEq] at h; obtain ⟨_, rfl⟩ := h; rfl)
  | .refuse .., r, site, m, v, h => by cases r <;> (simp only [cCode, Option.some.injEq, Prod.mk.injEq] at h; obtain ⟨_, rfl⟩ := h; rfl)
theorem cFunc_strip {fn : Func} {v : VFunc} (h : cFunc P fn = some v) : v.strip = v := by
  unfold cFunc at h
  simp only [Option.bind_eq_bind, Option.pure_def] at h
  obtain ⟨c, hb, h⟩ := Option.bind_eq_some_iff.1 h
  obtain ⟨⟨m, body⟩, hcc, h⟩ := Option.bind_eq_some_iff.1 h
  obtain ⟨res, hres, h⟩ := Option.bind_eq_some_iff.1 h
  cases h
  simp only [VFunc.strip, cCode_strip c hcc]
end
/-- What a function does that is taken by its law. -/
abbrev Prim := List V → List Obj → Option (V × List Obj)
/-- A function's code with its annotations. -/
def VFunc.ann (ap : FuncId → Bool) (ib : Bool) (ks : Keeps) (v : VFunc) : VFunc := { v with body := (((if ib then v.body.setIb else v.body).setAp ap).keep ks).1 }
/-- A program of the model's, read: 'ap': which functions' results hang on nothing; 'keeps': what is kept at the loops' heads; 'prims': functions that are taken by their laws. -/
def vprog (P : Program) (ap ib : FuncId → Bool) (keeps : FuncId → Keeps) (prims : FuncId → Option VDef) : VProg := fun f =>
  match prims f with
  | some run => some run
  | none => match P.funcs[f]? with
    | some fn => if (fn.name == "runtime.NumGoroutine") = true then none else (cFunc P fn).map fun v => .code (v.ann ap (ib f) (keeps f))
    | none => none
def PrimsOk (P : Program) (prims : FuncId → Option VDef) : Prop := ∀ f d, prims f = some d → match d with
  | .prim run => ∀ args objs r os, run args objs = some (r, os) → EnterOk P f ∧ Behaves P f args objs r os
  | .iter run => IterOk P f run
  | .code _ => False
theorem vprog_ok {P : Program} {ap ib : FuncId → Bool} {keeps : FuncId → Keeps} {prims : FuncId → Option VDef} (hp : PrimsOk P prims) : GOk P (vprog P ap ib keeps prims) := by
  have hcode : ∀ f d, vprog P ap ib keeps prims f = some d → prims f = some d ∨ ∃ vf fn v, d = .code vf ∧ P.funcs[f]? = some fn ∧ cFunc P fn = some v ∧ vf = v.ann ap (ib f) (keeps f) ∧ (fn.name == "runtime.NumGoroutine") = false := by
    intro f d h
    unfold vprog at h
    split at h
    · rename_i run' hrun
      cases h
      exact .inl hrun
    · split at h
      · rename_i fn hfn
        split at h
        · cases h
        · rename_i hname
          obtain ⟨v, hv, e⟩ := Option.map_eq_some_iff.1 h
          exact .inr ⟨_, fn, v, e.symm, hfn, hv, rfl, by simpa using hname⟩
      · cases h
  refine ⟨fun f vf h => ?_, fun f run h => ?_, fun f run h => ?_⟩
  · rcases hcode f _ h with h | ⟨vf', fn, v, e, h1, h2, h3, h4⟩
    · exact (hp f _ h).elim
    · cases e
      refine ⟨fn, h1, ?_, h4⟩
      rw [h2, h3]
      have := cFunc_strip h2
      simp only [VFunc.strip, VFunc.ann] at this ⊢
      rw [keep_strip, setAp_strip]
      cases ib f with
      | false => exact congrArg some this.symm
      | true => simp only [if_true]; rw [setIb_strip]; exact congrArg some this.symm
  · rcases hcode f _ h with h | ⟨vf', fn, v, e, _⟩
    · exact hp f _ h
    · cases e
  · rcases hcode f _ h with h | ⟨vf', fn, v, e, _⟩
    · exact hp f _ h
    · cases e
end Go.Vq
/- A copy of a slice by the library's Clone (no law of Go is stated here). -/
namespace Go.Vq
/-- The text of slices.Clone at a slice's type T (B: bool). -/
def cloneBody (T B : TypeId) : Code :=
  (Code.region 0 #[{ dst := some 2, op := Op.assign (Operand.const (Value.slice none 0 0)), type := T, pos := "slices.go:355", after := #[], guard := none }] false).seq
    (((Code.region 1 #[{ dst := some 3, op := Op.move (Operand.tmp 0), type := T, pos := "slices.go:357", after := #[], guard := none },
          { dst := some 4, op := Op.binOp BinOp.eql T (Operand.tmp 3) (Operand.const (Value.slice none 0 0)) T, type := B, pos := "slices.go:357", after := #[{ on := 0, ground := Ground.data }], guard := none }] false).seq
        (Code.cond (Operand.tmp 4)
          ((Code.region 2 #[{ dst := some 2, op := Op.assign (Operand.const (Value.slice none 0 0)), type := T, pos := "slices.go:358", after := #[], guard := none }] false).seq Code.ret)
          Code.skip)).seq
      ((Code.region 3 #[{ dst := some 5, op := Op.buildSlice T 0 #[], type := T, pos := "slices.go:362", after := #[], guard := none },
          { dst := some 6, op := Op.move (Operand.tmp 0), type := T, pos := "slices.go:362", after := #[], guard := none },
          { dst := some 7, op := Op.call { callee := Callee.builtin Builtin.append, args := #[Operand.tmp 5, Operand.tmp 6], argTypes := #[T, T] }, type := T, pos := "slices.go:362",
            after := #[{ on := 0, ground := Ground.data }, { on := 1, ground := Ground.data }], guard := none },
          { dst := some 2, op := Op.assign (Operand.tmp 7), type := T, pos := "slices.go:362",
            after := #[{ on := 2, ground := Ground.data }, { on := 2, ground := Ground.chain }, { on := 0, ground := Ground.phase }, { on := 1, ground := Ground.phase }, { on := 2, ground := Ground.phase }], guard := none }] false).seq
        Code.ret))
/-- What it comes to: elements of so many bytes. -/
def clonePrim (sz bytes : Nat) : Prim := fun args objs =>
  match args, objs with
  | [.isl _ sz' es], [] => if sz' = sz ∧ es.length * bytes ≤ 140737488355328 then some (.xsl 0 sz es, []) else none
  | _, _ => none
section
variable {P : Program}
theorem wpOps_cons {ops : Array Oper} {Q : Exit → Act → World → Prop} {i : Nat} {rest : List Nat} {a : Act} {w w' : World} {o : Oper} {v : Value} (ho : ops[i]? = some o) (hg : o.guard = none) (hr : (execOp a.eval o).run P w = .ok (.value v) w') (hn : wpOps P ops Q rest (a.put o.dst v) w') : wpOps P ops Q (i :: rest) a w := by
  simp only [wpOps, ho]
  rw [if_pos (by simp [Region.wanted, hg])]
  left
  unfold Oper.wp
  rw [hr]
  exact hn
abbrev act8 (a b c d e f g h : Value) : Act := ⟨#[a, b, c, d, e, f, g, h], []⟩
theorem clone_eq {T e : TypeId} (hT : under P T = some (.slice e)) (a : Option Addr) (l c : Nat) (ox oy : Operand) (w : World) : (do eqGuard BinOp.eql T ox oy (Value.slice a l c) (Value.slice none 0 0); binOp BinOp.eql T (Value.slice a l c) (Value.slice none 0 0) : Sem Value).run P w = .ok (.bool a.isNone) w := by
  have := (EqRun.of_equal (P := P) (w := w) (t := T) (x := .slice a l c) (y := .slice none 0 0) (r := a.isNone) (run_equal_slice_nil w T e _ _ _ hT) (.inl ⟨rfl, by simp⟩) fun op => ⟨fun e => by subst e; rfl, fun e => by subst e; rfl⟩)
  exact (this ox oy).1
theorem clone_walk {f : FuncId} {fn : Func} {T B e : TypeId} {sz bytes : Nat} (h1 : P.funcs[f]? = some fn) (h2 : fn.body = some (cloneBody T B)) (h3 : fn.ntmps = 8) (h4 : fn.results = #[.tmp 2]) (hT : AppT P T T e sz bytes)
    {E : Env} {w : World} {es : List V} {x : Value} (hC : CoreS 0 E ⟨[], []⟩ [] [] [] w.heap) (hx : RelI E.imm w.heap (.isl 0 sz es) x) (hbig : es.length * bytes ≤ 140737488355328) :
    Calls P f #[x] w (RetOk 0 E w (.xsl 0 sz es) []) := by
  obtain ⟨a, cap, hw, hi⟩ := View.of_isl hx
  have hxe := hw.eq
  subst hxe
  refine calls_of_wp h1 h2 ?_
  rw [h3]
  change Code.wp P (cloneBody T B) _ (act8 (.slice a es.length cap) undef undef undef undef undef undef undef) w
  have hret : ∀ {y : Value} {w' : World} {t3 t4 t5 t6 t7 : Value}, RetOk 0 E w (.xsl 0 sz es) [] (.returned y) w' → bodyPost P fn (RetOk 0 E w (.xsl 0 sz es) []) .ret (act8 (.slice a es.length cap) undef y t3 t4 t5 t6 t7) w' := by
    intro y w' t3 t4 t5 t6 t7 h
    refine ⟨rfl, y, ?_, h⟩
    have := results_run (P := P) (w := w') (fn := fn) (tmps := #[.slice a es.length cap, undef, y, t3, t4, t5, t6, t7]) (ys := [y]) (by rw [h4]; rfl) (fun i r z hr hz => by
      rw [h4] at hr
      cases i with
      | succ i => simp at hr
      | zero => simp at hr hz; subst hr hz; rfl)
    exact this
  unfold cloneBody
  refine wp_seq (wp_region ?_)
  refine wpOps_cons (v := .slice none 0 0) (w' := w) rfl rfl rfl ?_
  change Code.wp P _ _ (act8 (.slice a es.length cap) undef (.slice none 0 0) undef undef undef undef undef) w
  refine wp_seq (wp_seq (wp_region ?_))
  refine wpOps_cons (v := .slice a es.length cap) (w' := w) rfl rfl rfl ?_
  refine wpOps_cons (v := .bool a.isNone) (w' := w) rfl rfl ?_ ?_
  · have := clone_eq hT.ht a es.length cap (Operand.tmp 3) (Operand.const (Value.slice none 0 0)) w
    change ((do let v ← (do eqGuard BinOp.eql T (Operand.tmp 3) (Operand.const (Value.slice none 0 0)) (Value.slice a es.length cap) (Value.slice none 0 0); binOp BinOp.eql T (Value.slice a es.length cap) (Value.slice none 0 0)); pure (Next.value v) : Sem Next)).run P w = _
    rw [Sem.run_bind, this]; rfl
  change Code.wp P _ _ (act8 (.slice a es.length cap) undef (.slice none 0 0) (.slice a es.length cap) (.bool a.isNone) undef undef undef) w
  cases a with
  | none =>
    have h0 : es = [] := by
      have := hw.nil rfl
      have := hw.le
      exact List.eq_nil_of_length_eq_zero (by omega)
    subst h0
    refine wp_cond_true rfl (wp_seq (wp_region ?_))
    refine wpOps_cons (v := .slice none 0 0) (w' := w) rfl rfl rfl ?_
    change Code.wp P Code.ret _ (act8 (.slice none 0 cap) undef (.slice none 0 0) (.slice none 0 cap) (.bool true) undef undef undef) w
    refine wp_ret (hret ⟨E, ?_, Grow.refl _ _ _, WSame.refl _⟩)
    have := hC.pushOwn (tail := false) (g := 0) (sz := sz) (es := []) (a := none) (cap := 0) ⟨Nat.le_refl _, fun _ => rfl, fun _ h => (by cases h), fun h => absurd rfl h, Elems.nil _ _ _ _⟩
    exact this.core
  | some ad =>
    refine wp_cond_false rfl (wp_skip ?_)
    change Code.wp P _ _ (act8 (.slice (some ad) es.length cap) undef (.slice none 0 0) (.slice (some ad) es.length cap) (.bool false) undef undef undef) w
    -- the empty slice
    obtain ⟨E1, hC1, hG1⟩ := hC.newOwn (base := 0) (tail := false) (g := 0) (sz := sz) (cap := 0) (es := []) (arr := #[]) (T := e) (f := (0, 0)) (Nat.le_refl _) (by simp) (open_00 _) ⟨fun e h => by simp at h, fun i e j v h => by simp at h⟩
    obtain ⟨news, hsrc⟩ := View.src (P := P) (H := (w.alloc (.cells #[] e)).heap) (imm := E1.imm) (sz := sz) (es := es) (x := .slice (some ad) es.length cap) (a := some ad) (cap := cap) ⟨rfl, hw.le, hw.nil, hw.spot, hw.elems.1, fun i e0 j v h5 h6 => by
      obtain ⟨ad', y, g1, g2, g3⟩ := hw.elems.2 i e0 j v h5 h6
      cases g1
      have himm := hi ad i e0 j rfl h5 (lt_of_getElem? h6)
      have := hG1.imm _ _ himm
      exact ⟨ad, y, rfl, this.2.trans g2, g3.mono hG1.imm⟩⟩
    obtain ⟨E2, w2, y, hrun, hC2, hG2, hW2⟩ := append_own (P := P) (base := 0) (ty := T) (w := w.alloc (.cells #[] e)) (tail := false) (g := 0) (es := []) (fs := es) hT hC1 hsrc (by simpa using hbig)
    refine wp_seq (wp_region ?_)
    refine wpOps_cons (v := .slice (some ⟨w.heap.size, 0, none⟩) 0 0) (w' := w.alloc (.cells #[] e)) rfl rfl ?_ ?_
    · obtain ⟨zs, hz, hzl⟩ := hT.hz
      simp [execOp, Instr.buildSlice, run_under hT.ht, run_size hT.hs, Instr.fill, Go.newRow, show Array.range 0 = #[] from rfl]
    refine wpOps_cons (v := .slice (some ad) es.length cap) rfl rfl rfl ?_
    refine wpOps_cons (v := y) (w' := w2) rfl rfl ?_ ?_
    · rw [builtin_run (c := { callee := Callee.builtin Builtin.append, args := #[Operand.tmp 5, Operand.tmp 6], argTypes := #[T, T] }) (b := .append) rfl rfl]
      simp only [builtin, List.map_toArray, List.map_cons, List.map_nil, Sem.run_bind]
      change ((Builtin.append_ #[T, T] T #[.slice (some ⟨w.heap.size, 0, none⟩) 0 0, .slice (some ad) es.length cap]).run P (w.alloc (.cells #[] e))).andThen _ = _
      have : (Builtin.append_ #[T, T] T #[.slice (some ⟨w.heap.size, 0, none⟩) 0 0, .slice (some ad) es.length cap]).run P (w.alloc (.cells #[] e)) = .ok y w2 := hrun
      rw [this]; rfl
    refine wpOps_cons (v := y) (w' := w2) rfl rfl rfl ?_
    refine wp_ret ?_
    refine hret (t3 := .slice (some ad) es.length cap) (t4 := .bool false) (t5 := .slice (some ⟨w.heap.size, 0, none⟩) 0 0) (t6 := .slice (some ad) es.length cap) (t7 := y) ⟨E2, ?_, hG1.trans hG2, ⟨hW2.os, hW2.output, hW2.tape⟩⟩
    have := hC2.core
    rw [List.nil_append] at this
    exact this
theorem clone_ok {f : FuncId} {fn : Func} {T B e : TypeId} {sz bytes : Nat} (h1 : P.funcs[f]? = some fn) (h2 : fn.body = some (cloneBody T B)) (h3 : fn.ntmps = 8) (h4 : fn.results = #[.tmp 2]) (h5 : (fn.name == "runtime.NumGoroutine") = false) (hT : AppT P T T e sz bytes) :
    ∀ args objs r os, clonePrim sz bytes args objs = some (r, os) → EnterOk P f ∧ Behaves P f args objs r os := by
  intro args objs r os h
  unfold clonePrim at h
  split at h
  · rename_i g sz' es
    split at h
    · rename_i hc
      obtain ⟨rfl, hbig⟩ := hc
      cases h
      refine ⟨⟨fn, h1, by rw [h2]; rfl, h5⟩, fun k cs hk => by simp at hk, fun E vals w hC => ?_⟩
      have hl := hC.len
      cases vals with
      | nil => simp at hl
      | cons x vals =>
        cases vals with
        | cons y vals => simp at hl
        | nil =>
          have hx := (hC.slot 0 _ x rfl rfl).2 0 (.isl g sz' es) x rfl (by
            have := leaf_shape (v := .isl g sz' es) rfl (fun g => by simp) (hC.slot 0 _ x rfl rfl).1
            rw [vleaves_leaf this]; rfl)
          have hx' : RelI E.imm w.heap (.isl 0 sz' es) x := by
            obtain ⟨a, cap, hw, hi⟩ := View.of_isl hx
            exact isl_of_view hw hi
          refine clone_walk h1 h2 h3 h4 hT ⟨rfl, rfl, ⟨rfl, Nat.le_refl _, fun s v x h => by simp at h, fun o cs h => by simp at h, hC.fresh, fun s v h => by simp at h⟩⟩ hx' hbig
    · cases h
  · cases h
end
end Go.Vq
/- A law without input: what the V-level machine says of it is what the program does (no law of Go is stated here). -/
namespace Go.Vq
/-- The world as it is found: all that stands there is fixed. -/
def env0 (H : Array Go.Obj) : Env := { tag := fun b => if b < H.size then .imm else .other, addr := fun _ => 0 }
theorem core0 (H : Array Go.Obj) : Core 0 (env0 H) [] [] [] H where
  len := rfl
  real := Nat.zero_le _
  slot := fun s v x h _ => by simp at h
  obj := fun o cs h => by simp at h
  fresh := fun b hb => by unfold env0; simp only; rw [if_neg (by omega)]
  refs := fun s v h => by simp at h
/-- Of what stood there nothing has turned. -/
structure Still (W w' : World) : Prop where
  kept : W.keptBut w' fun _ => False
  froz : ∀ a : Addr, a.block < W.heap.size → w'.frozen? a = W.frozen? a
theorem still_of {w w' : World} {E' : Env} (h : Grow 0 (env0 w.heap) w.heap E' w'.heap) (hs : WSame w w') : Still w w' := by
  have hold : ∀ b, b < w.heap.size → w'.heap[b]? = w.heap[b]? := fun b hb => (h.immT b (by unfold env0; simp only; rw [if_pos hb])).2
  refine ⟨⟨hs.os, hs.output, fun i hi => ?_⟩, fun a ha => ?_⟩
  · rw [hold i hi]
    cases hx : w.heap[i]? with
    | none => rfl
    | some o => cases o with
      | cells c t fr => exact ⟨rfl, rfl, rfl, fun _ _ => rfl⟩
      | map es cl => exact .inr ⟨rfl, rfl⟩
      | _ => rfl
  · unfold World.frozen?
    rw [hold _ ha]
theorem true_walk {P : Program} {G : VProg} (hG : GOk P G) {f : FuncId} {M : Nat} (h : call G M f [] [] = some (.bool true, [])) (w : World) :
    Calls P f #[] w fun e w' => e = .returned (.bool true) ∧ Still w w' := by
  have hb := (call_sound hG M f [] [] _ _ h).2.2 (env0 w.heap) [] w (core0 w.heap)
  refine hb.mono fun e w' he => ?_
  cases e with
  | returned x =>
    obtain ⟨E', hC, hg, hs⟩ := he
    have := slot_toVal (hC.slot 0 _ x rfl rfl) (y := .bool true) rfl
    exact ⟨by rw [this], still_of hg hs⟩
  | _ => exact he.elim
open Go.WideShapes Go.ChangeShapes in
/-- The row's end, where what stood there stands as it stood. -/
theorem post_still {H : Type} {enc : TypeId × Value → H} {P : Program} {f : Func} {s : ChangeSpec} {apart fresh handsOn again : Bool} {W W' : World} {args : Array Value} {v : Value} {ds gs : List (DataW H)} {before pa pv : List MemPlace}
    (hW : DataW.Whole enc P f.params.toList s.vars apart W args.toList ds gs before)
    (hres : ∀ (b : Nat) (sp : Nat → Bool) (hd : Bool), DataW.TrodAll enc P W' b sp hd f.resultTypes.toList (v.resultList f.resultTypes.size) (s.fn H (ds ++ gs)).results [])
    (hargs : ∀ sp : Nat → Bool, (∀ p ∈ before, sp p.block = true) → DataW.TrodAll enc P W' 0 sp true f.params.toList args.toList (s.fn H (ds ++ gs)).args pa)
    (hvars : ∀ sp : Nat → Bool, (∀ p ∈ before, sp p.block = true) → DataW.TrodVars enc P W' sp s.vars (s.fn H (ds ++ gs)).vars pv)
    (hps : before = pa ++ pv) (hS : Still W W')
    (hok : ∀ (j : Nat) (t : TypeId) (r : Value), f.resultTypes[j]? = some t → (v.resultList f.resultTypes.size)[j]? = some r → Value.okWide P W' .any 0 t r) :
    s.post enc P f apart fresh handsOn again W args v W' := by
  have hlt := hW.lt
  obtain ⟨_, _, _, _, _, hz, hn⟩ := id hW
  refine ⟨ds, gs, before, [], pa, pv, hW, hres _ _ _, hargs _ fun p hp => ?_, hvars _ fun p hp => ?_, World.keptBut_mono (fun p hp => hp.elim) hS.kept, fun _ => ⟨hok, _, _, ([] ++ pa) ++ pv, ⟨[] ++ pa, pv, trodAll_append (hargs _ fun _ _ => rfl) (hres _ _ _), hvars _ fun _ _ => rfl, rfl, fun b off hp => ?_, fun ha => ?_⟩, fun p hp _ => ?_⟩⟩
  · simpa using hlt p hp
  · simpa using hlt p hp
  · have hp' : MemPlace.cell b off ∈ before := by rw [hps]; simpa using hp
    have := hlt _ hp'
    rw [hS.froz ⟨b, off, none⟩ this]
    exact hz b off hp'
  · have := hn ha
    rw [hps] at this
    simpa using this
  · rw [hps]
    simpa using hp
def isTrue : Option (V × List Obj) → Bool
  | some (.bool true, []) => true
  | _ => false
theorem of_isTrue {x : Option (V × List Obj)} (h : isTrue x = true) : x = some (.bool true, []) := by
  unfold isTrue at h
  split at h
  · rfl
  · cases h
end Go.Vq
/- Steps of the V-level machine, said one by one (no law of Go is stated here). -/
namespace Go.Vq
section
variable {cal : Callee} {base : Nat} {σ σ1 σ2 : St} {its : FuncId → Iter} {again : Nat → VCode → St → Option (Out × St)} {r : Option (Out × St)}
theorem runOps_nil : runOps cal base [] σ = some σ := rfl
theorem runOps_cons {o : VOper} {os : List VOper} {r : Option St} (h : (o.prog cal base).run σ = some σ1) (h2 : runOps cal base os σ1 = r) : runOps cal base (o :: os) σ = r := by
  simp only [runOps, h]; exact h2
/-- What an operation asks of its data. -/
theorem run_asks {c : Prop} [Decidable c] {p : Prog} (hc : c) (h : p.run σ = some σ1) : (if c then p else Prog.fail).run σ = some σ1 := by rw [if_pos hc]; exact h
theorem run_if {c : Prop} [Decidable c] {p q : Prog} (hc : c) (h : p.run σ = some σ1) : (if c then p else q).run σ = some σ1 := by rw [if_pos hc]; exact h
theorem run_else {c : Prop} [Decidable c] {p q : Prog} (hc : ¬c) (h : q.run σ = some σ1) : (if c then p else q).run σ = some σ1 := by rw [if_neg hc]; exact h
theorem foot_if {c : Prop} [Decidable c] {p q : Prog} {f : List Loc × List Loc} (hc : c) (h : p.foot σ = f) : (if c then p else q).foot σ = f := by rw [if_pos hc]; exact h
theorem foot_else {c : Prop} [Decidable c] {p q : Prog} {f : List Loc × List Loc} (hc : ¬c) (h : q.foot σ = f) : (if c then p else q).foot σ = f := by rw [if_neg hc]; exact h
theorem runDraw_nil {done : List (List Loc × List Loc)} : runDraw cal base [] done σ = some σ := rfl
theorem runDraw_cons {o : VOper} {os : List VOper} {done : List (List Loc × List Loc)} {f : List Loc × List Loc} {r : Option St} (hf : (o.prog cal base).foot σ = f) (hc : clashes o.before f 0 done = false)
    (h : (o.prog cal base).run σ = some σ1) (h2 : runDraw cal base os (done ++ [f]) σ1 = r) : runDraw cal base (o :: os) done σ = r := by
  simp only [runDraw, hf, hc, h, Bool.false_eq_true, if_false]; exact h2
theorem step_region {ops : List VOper} (h : runOps cal base ops σ = some σ1) : step cal its again base (.region ops false) σ = some (.normal, σ1) := by simp [step, h]
theorem step_draw {ops : List VOper} (h : runDraw cal base ops [] σ = some σ1) : step cal its again base (.region ops true) σ = some (.normal, σ1) := by simp [step, h]
theorem step_seq {a b : VCode} (h : step cal its again base a σ = some (.normal, σ1)) (h2 : step cal its again base b σ1 = r) : step cal its again base (.seq a b) σ = r := by simp only [step, h]; exact h2
theorem step_seq_out {a b : VCode} {o : Out} (h : step cal its again base a σ = some (o, σ1)) (ho : o ≠ .normal) : step cal its again base (.seq a b) σ = some (o, σ1) := by
  simp only [step, h]
  cases o with
  | normal => exact absurd rfl ho
  | _ => rfl
theorem step_true {c : Opd} {a b : VCode} (hc : condV c σ = some true) (h : step cal its again base a σ = r) : step cal its again base (.cond c a b) σ = r := by simp only [step, hc]; exact h
theorem step_false {c : Opd} {a b : VCode} (hc : condV c σ = some false) (h : step cal its again base b σ = r) : step cal its again base (.cond c a b) σ = r := by simp only [step, hc]; exact h
theorem step_block {id : Nat} {keep : Option (List Nat)} {a : VCode} (h : step cal its again base a σ = some (.normal, σ1)) (hk : rebase? keep base σ1 = σ2) : step cal its again base (.block id keep a) σ = some (.normal, σ2) := by simp only [step, h, hk]
theorem step_block_exit {id : Nat} {keep : Option (List Nat)} {a : VCode} (h : step cal its again base a σ = some (.exit id, σ1)) (hk : rebase? keep base σ1 = σ2) : step cal its again base (.block id keep a) σ = some (.normal, σ2) := by simp [step, h, hk]
theorem step_block_out {id id' : Nat} {keep : Option (List Nat)} {a : VCode} (h : step cal its again base a σ = some (.exit id', σ1)) (hne : id' ≠ id) : step cal its again base (.block id keep a) σ = some (.exit id', σ1) := by simp [step, h, hne]
theorem step_block_ret {id : Nat} {keep : Option (List Nat)} {a : VCode} (h : step cal its again base a σ = some (.ret, σ1)) : step cal its again base (.block id keep a) σ = some (.ret, σ1) := by simp only [step, h]
/-- A round of a loop, and on. -/
theorem step_loop {keep : Option (List Nat)} {a : VCode} (hk : rebase? keep base σ = σ1) (h : step cal its again base a σ1 = some (.normal, σ2)) (h2 : again base (.loop keep a) σ2 = r) : step cal its again base (.loop keep a) σ = r := by
  simp only [step, hk, h]; exact h2
theorem step_loop_out {keep : Option (List Nat)} {a : VCode} {o : Out} (hk : rebase? keep base σ = σ1) (h : step cal its again base a σ1 = some (o, σ2)) (ho : o ≠ .normal) : step cal its again base (.loop keep a) σ = some (o, σ2) := by
  simp only [step, hk, h]
  cases o with
  | normal => exact absurd rfl ho
  | _ => rfl
theorem exec_succ {G : VProg} {n : Nat} {c : VCode} : exec G (n + 1) base c σ = step (call G n) (itersOf G) (exec G n) base c σ := rfl
theorem call_code {G : VProg} {n : Nat} {f : FuncId} {fn : VFunc} {args : List V} {objs : List Obj} {o : Out} {res : Option (V × List Obj)} (hf : G f = some (.code fn)) (hl : args.length = fn.nparams ∧ fn.nparams ≤ fn.ntmps)
    (h : exec G n objs.length fn.body (start fn args objs) = some (o, σ)) (ho : o = .normal ∨ o = .ret) (hr : finish fn objs.length σ = res) : call G n f args objs = res := by
  unfold call callWith
  rw [hf]
  simp only [if_pos hl, h]
  rcases ho with rfl | rfl <;> exact hr
theorem call_prim {G : VProg} {n : Nat} {f : FuncId} {run : List V → List Obj → Option (V × List Obj)} {args : List V} {objs : List Obj} (hf : G f = some (.prim run)) : call G n f args objs = run args objs := by
  unfold call callWith
  rw [hf]
end
end Go.Vq
/- The library's iterators over a slice: from behind (no law of Go is stated here). -/
namespace Go.Vq
open Go.RowKit
/-- An element as it is loaded. -/
def fixE (agg : Bool) (e : V) : V := if agg then .agg e.cells else e.cells.headD .nil
def idxV (l : List V) : List (List V) := l.zipIdx.map fun p => [.int .i64 p.2, p.1]
def backwardI (agg : Bool) (sz : Nat) : Iter
  | [[.isl _ sz' es]] => if sz' = sz ∧ es.length ≤ 140737488355328 then some (2, (idxV (es.map (fixE agg))).reverse) else none
  | _ => none
section
variable {P : Program} {r : Option Nat} {n : Nat}
theorem wpOpsIn_cons {ops : Array Oper} {Q : Exit → Act → World → Prop} {i : Nat} {rest : List Nat} {a : Act} {w w' : World} {o : Oper} {v : Value} (ho : ops[i]? = some o) (hg : o.guard = none) (hd : ∀ c, o.op ≠ .defer c) (hr : (execOp a.eval o).run P w = .ok (.value v) w')
    (hn : wpOpsIn (Fw r) n P ops Q rest (a.put o.dst v) w') : wpOpsIn (Fw r) n P ops Q (i :: rest) a w := by
  simp only [wpOpsIn, ho]
  rw [if_pos (by simp [Region.wanted, hg])]
  refine ⟨fun _ _ => trivial, ?_⟩
  rw [Oper.semAt_eq _ _ _ hd, hr]
  exact hn
theorem wpOpsIn_round {ops : Array Oper} {Q : Exit → Act → World → Prop} {i : Nat} {rest : List Nat} {a : Act} {w w' : World} {o : Oper} {l : Nat} {f : FuncId} {tmps : Array Value} {asg body : Code} (ho : ops[i]? = some o) (hg : o.guard = none) (hd : ∀ c, o.op ≠ .defer c)
    (hr : (execOp a.eval o).run P w = .ok (.round l f tmps asg body) w') (hn : RoundIn (Fw r) (n - 1) P l f tmps asg body w' fun
      | .returned v, w'' => wpOpsIn (Fw r) n P ops Q rest (a.put o.dst v) w''
      | .panicked chain, w'' => Q (.panic chain) a w''
      | .outgrown, _ => LetsOut Q) : wpOpsIn (Fw r) n P ops Q (i :: rest) a w := by
  simp only [wpOpsIn, ho]
  rw [if_pos (by simp [Region.wanted, hg])]
  refine ⟨fun _ _ => trivial, ?_⟩
  rw [Oper.semAt_eq _ _ _ hd, hr]
  exact ⟨fun h => (by cases h), hn⟩
theorem wpIn_region_at {id : Nat} {ops : Array Oper} {Q : Exit → Act → World → Prop} {a : Act} {w : World} (m : Nat) (L : List Nat) (hm : ops.size = m) (hL : List.range m = L) (h : wpOpsIn (Fw r) n P ops Q L a w) : (Code.region id ops false).wpIn (Fw r) n P Q a w :=
  wpIn_region (by rw [hm, hL]; exact h)
theorem load1_run {t : TypeId} {ad : Addr} {v : Value} {w : World} (ha : aggOf P t = some false) (hs : szOf P t = some 1) (hsp : ad.spot = none) (hc : cellAt w.heap ad.block ad.off = some v) : (loadVar t ad).run P w = .ok v w := by
  have := loadVar_run (w := w) ha hs hsp (fun j hj => ⟨v, by obtain rfl : j = 0 := by omega
                                                             exact hc⟩) (fun _ => rfl)
  rw [this]
  simp only [Bool.false_eq_true, if_false, cellsAt, List.range_one, List.map_cons, List.map_nil, List.headD_cons, Nat.add_zero, hc, Option.getD_some]
/-- The element at a place of a slice that is told for good. -/
def valAt (H : Array Go.Obj) (agg : Bool) (ad : Addr) (sz i : Nat) : Value := if agg then .agg (cellsAt H (ad.add (i * sz)) sz).toArray else (cellsAt H (ad.add (i * sz)) sz).headD undef
theorem elem_at {E : Env} {w : World} {g sz : Nat} {es : List V} {a : Option Addr} {l c : Nat} {e : TypeId} {agg : Bool} (hI : RelI E.imm w.heap (.isl g sz es) (.slice a l c)) (ha : aggOf P e = some agg) (hs : szOf P e = some sz) (hag : agg = false → sz = 1) {i : Nat} {u : V} (hi : es[i]? = some u) :
    l = es.length ∧ ∃ ad, a = some ad ∧ ad.spot = none ∧ RelE E w.heap (fixE agg u) (valAt w.heap agg ad sz i) ∧
      ∀ w' : World, (∀ b i, E.imm b i → cellAt w'.heap b i = cellAt w.heap b i) → (loadVar e (ad.add (i * sz))).run P w' = .ok (valAt w.heap agg ad sz i) w' := by
  obtain ⟨a', cap, hw, him⟩ := View.of_isl hI
  have he := hw.eq
  cases he
  have hlt := lt_of_getElem? hi
  have hle := hw.le
  cases a with
  | none => have := hw.nil rfl; omega
  | some ad =>
    have hsp := hw.spot ad rfl (by omega)
    obtain ⟨hlen, hlf⟩ := hw.elems.1 u (List.mem_of_getElem? hi)
    have hcell : ∀ j, j < sz → ∃ v y, u.cells[j]? = some v ∧ v.leaf = true ∧ E.imm (ad.add (i * sz)).block ((ad.add (i * sz)).off + j) ∧ cellAt w.heap (ad.add (i * sz)).block ((ad.add (i * sz)).off + j) = some y ∧ RelI E.imm w.heap v y := by
      intro j hj
      obtain ⟨v, hv⟩ := exists_getElem? (l := u.cells) (i := j) (by omega)
      obtain ⟨ad', y, e1, e2, e3⟩ := hw.elems.2 i u j v hi hv
      cases e1
      have h4 := him ad i u j rfl hi (by omega)
      refine ⟨v, y, hv, hlf v (List.mem_of_getElem? hv), ?_, ?_, e3⟩
      · rw [add_spot hsp]; simpa [Nat.add_assoc] using h4
      · rw [add_spot hsp]; simpa [Nat.add_assoc] using e2
    have hget : ∀ j, j < sz → ∃ v y, u.cells[j]? = some v ∧ v.leaf = true ∧ (cellsAt w.heap (ad.add (i * sz)) sz)[j]? = some y ∧ RelI E.imm w.heap v y := by
      intro j hj
      obtain ⟨v, y, h1, h2, _, h3, h4⟩ := hcell j hj
      exact ⟨v, y, h1, h2, cellsAt_get hj h3, h4⟩
    refine ⟨rfl, ad, rfl, hsp, ?_, fun w' hw' => ?_⟩
    · cases agg with
      | true =>
        refine ⟨⟨_, rfl, by simp [cellsAt_len, hlen]⟩, fun j v z hv hz => ?_⟩
        have hv : u.cells[j]? = some v := hv
        have hj : j < sz := by rw [← hlen]; exact lt_of_getElem? hv
        obtain ⟨v', y, h1, h2, h3, h4⟩ := hget j hj
        rw [hv] at h1; cases h1
        have hz' : (cellsAt w.heap (ad.add (i * sz)) sz)[j]? = some z := by simpa [vcells, valAt, Value.cells] using hz
        rw [h3] at hz'; cases hz'
        exact ⟨h2, h4⟩
      | false =>
        have h1 := hag rfl
        subst h1
        obtain ⟨v, y, h1, h2, h3, h4⟩ := hget 0 (by omega)
        have hc1 : u.cells = [v] := by
          match hu : u.cells, hlen with
          | [x], _ => rw [hu] at h1; simp at h1; rw [h1]
        have hv : fixE false u = v := by simp [fixE, hc1]
        have hy : valAt w.heap false ad 1 i = y := by
          simp only [valAt, Bool.false_eq_true, if_false]
          match hcs : cellsAt w.heap (ad.add (i * 1)) 1 with
          | [] => rw [hcs] at h3; simp at h3
          | z :: zs => rw [hcs] at h3; simp at h3; simp [h3]
        rw [hv, hy]
        have hx := relI_leafX h4 h2
        have hag : aggX y = false := by cases y <;> first | rfl | simp [leafX] at hx
        refine ⟨(shape1_leaf h2).2 hag, fun j v' z hv' hz => ?_⟩
        rw [cells_leaf h2] at hv'; rw [vcells_leaf hag] at hz
        cases j with
        | zero => simp at hv' hz; subst hv' hz; exact ⟨h2, h4⟩
        | succ j => simp at hv'
    · have hsame : cellsAt w'.heap (ad.add (i * sz)) sz = cellsAt w.heap (ad.add (i * sz)) sz := by
        unfold cellsAt
        refine List.map_congr_left fun j hj => ?_
        obtain ⟨v, y, _, _, h3, _, _⟩ := hcell j (List.mem_range.1 hj)
        rw [hw' _ _ h3]
      have := loadVar_run (w := w') (ad := ad.add (i * sz)) ha hs (by rw [add_spot hsp]) (fun j hj => by
        obtain ⟨v, y, _, _, h3, h4, _⟩ := hcell j hj
        exact ⟨y, by rw [hw' _ _ h3]; exact h4⟩) hag
      rw [this, hsame]
      rfl
/-- The text of slices.Backward's closure. -/
def backBody (S e Y I B : TypeId) : Code :=
  ((Code.region 0
            #[{ dst := some 4, op := Op.load S (Operand.tmp 1), type := S, pos := "iter.go:28", after := #[],
                guard := none },
              { dst := some 5,
                op :=
                  Op.call
                    { callee := Callee.builtin Builtin.len, args := #[Operand.tmp 4], argTypes := #[S] },
                type := I, pos := "iter.go:28", after := #[{ on := 0, ground := Ground.data }], guard := none },
              { dst := some 6,
                op :=
                  Op.binOp BinOp.sub I (Operand.tmp 5) (Operand.const (Value.int IntKind.i64 1)) I,
                type := I, pos := "iter.go:28", after := #[{ on := 1, ground := Ground.data }], guard := none },
              { dst := some 3, op := Op.assign (Operand.tmp 6), type := I, pos := "iter.go:28",
                after :=
                  #[{ on := 2, ground := Ground.data }, { on := 0, ground := Ground.phase },
                    { on := 1, ground := Ground.phase }, { on := 2, ground := Ground.phase }],
                guard := none }]
            false).seq
        (Code.block 0
          (((Code.region 1
                      #[{ dst := some 7, op := Op.move (Operand.tmp 3), type := I, pos := "iter.go:28",
                          after := #[], guard := none },
                        { dst := some 8,
                          op :=
                            Op.binOp BinOp.geq I (Operand.tmp 7)
                              (Operand.const (Value.int IntKind.i64 0)) I,
                          type := B, pos := "iter.go:28", after := #[{ on := 0, ground := Ground.data }],
                          guard := none }]
                      false).seq
                  (Code.cond (Operand.tmp 8) Code.skip (Code.exit 0))).seq
              ((Code.block 1
                    ((Code.region 3
                          #[{ dst := some 11, op := Op.move (Operand.tmp 0), type := Y, pos := "iter.go:29",
                              after := #[], guard := none },
                            { dst := some 12, op := Op.move (Operand.tmp 3), type := I, pos := "iter.go:29",
                              after := #[], guard := none },
                            { dst := some 13, op := Op.load S (Operand.tmp 1), type := S, pos := "iter.go:29",
                              after := #[], guard := none },
                            { dst := some 14, op := Op.move (Operand.tmp 3), type := I, pos := "iter.go:29",
                              after := #[], guard := none },
                            { dst := some 15, op := Op.indexAddr S (Operand.tmp 13) (Operand.tmp 14),
                              type := 0, pos := "iter.go:29",
                              after := #[{ on := 2, ground := Ground.data }, { on := 3, ground := Ground.data }],
                              guard := none },
                            { dst := some 16, op := Op.load e (Operand.tmp 15), type := e, pos := "iter.go:29",
                              after := #[{ on := 4, ground := Ground.data }], guard := none },
                            { dst := some 17,
                              op :=
                                Op.call
                                  { callee := Callee.value (Operand.tmp 11),
                                    args := #[Operand.tmp 12, Operand.tmp 16], argTypes := #[I, e] },
                              type := B, pos := "iter.go:29",
                              after :=
                                #[{ on := 0, ground := Ground.data }, { on := 1, ground := Ground.data },
                                  { on := 5, ground := Ground.data }],
                              guard := none },
                            { dst := some 18, op := Op.unOp UnOp.not B (Operand.tmp 17), type := B,
                              pos := "iter.go:29", after := #[{ on := 6, ground := Ground.data }], guard := none }]
                          false).seq
                      (Code.cond (Operand.tmp 18) Code.ret Code.skip))).seq
                (Code.region 2
                  #[{ dst := some 9, op := Op.move (Operand.tmp 3), type := I, pos := "iter.go:28", after := #[],
                      guard := none },
                    { dst := some 10,
                      op :=
                        Op.binOp BinOp.sub I (Operand.tmp 9) (Operand.const (Value.int IntKind.i64 1))
                          I,
                      type := I, pos := "iter.go:28", after := #[{ on := 0, ground := Ground.data }],
                      guard := none },
                    { dst := some 3, op := Op.assign (Operand.tmp 10), type := I, pos := "iter.go:28",
                      after :=
                        #[{ on := 1, ground := Ground.data }, { on := 0, ground := Ground.phase },
                          { on := 1, ground := Ground.phase }],
                      guard := none }]
                  false))).loop))
abbrev act19 (a b c d e f g h i j k l m n o p q r s : Value) : Act := ⟨#[a, b, c, d, e, f, g, h, i, j, k, l, m, n, o, p, q, r, s], []⟩
set_option maxHeartbeats 400000 in
theorem backward_ok {g : FuncId} {fn : Func} {S e Y I B : TypeId} {agg : Bool} {sz : Nat} (h1 : P.funcs[g]? = some fn) (h2 : fn.body = some (backBody S e Y I B)) (h3 : fn.ntmps = 19) (h4 : fn.results = #[]) (h5 : (fn.name == "runtime.NumGoroutine") = false)
    (hS : under P S = some (.slice e)) (hSs : szOf P S = some 1) (hSa : aggOf P S = some false) (ha : aggOf P e = some agg) (hs : szOf P e = some sz) (hag : agg = false → sz = 1) : IterOk P g (backwardI agg sz) := by
  refine ⟨⟨fn, h1, by rw [h2]; rfl, h5⟩, fun bs xs ar hrun E lb w hlb hbx => ?_⟩
  unfold backwardI at hrun
  split at hrun
  case h_2 => cases hrun
  rename_i g0 sz' es
  split at hrun
  case isFalse => cases hrun
  rename_i hc
  obtain ⟨hsz, hbig⟩ := hc
  replace hsz := hsz.symm
  subst hsz
  cases hrun
  obtain ⟨bx, hbx0, hbs, hbc⟩ := hbx 0 _ rfl
  obtain ⟨sv, him, hcv, hI⟩ := hbc 0 _ rfl
  rw [Nat.add_zero] at him hcv
  obtain ⟨a, cap, hw, _⟩ := View.of_isl hI
  have hsv := hw.eq
  subst hsv
  have hlb' : lb = #[.pointer (some bx)] := by
    apply Array.ext'
    match hl : lb.toList, (by simpa using hlb.symm : lb.toList.length = 1) with
    | [x], _ =>
      have : lb.toList[0]? = some (.pointer (some bx)) := by simpa using hbx0
      rw [hl] at this; simp at this; rw [this]
  subst hlb'
  have hxk : ∀ (k : Nat) (x : List V), ((idxV (es.map (fixE agg))).reverse)[k]? = some x → ∃ u, k < es.length ∧ es[es.length - 1 - k]? = some u ∧ x = [.int .i64 ((es.length - 1 - k : Nat) : Int), fixE agg u] := by
    intro k x hx
    have hk : k < es.length := by have := lt_of_getElem? hx; simpa [idxV] using this
    rw [List.getElem?_reverse (by simpa [idxV] using hk)] at hx
    simp only [idxV, List.length_map, List.length_zipIdx, List.getElem?_map, List.getElem?_zipIdx] at hx
    obtain ⟨u, hu⟩ := exists_getElem? (l := es) (i := es.length - 1 - k) (by omega)
    rw [hu] at hx
    simp at hx
    exact ⟨u, hk, hu, hx.symm⟩
  have hadr : ∀ i, i < es.length → ∃ ad, a = some ad ∧ ad.spot = none ∧ ∃ u, es[i]? = some u ∧ RelE E w.heap (fixE agg u) (valAt w.heap agg (a.getD default) sz i) ∧
      ∀ w' : World, (∀ b i, E.imm b i → cellAt w'.heap b i = cellAt w.heap b i) → (loadVar e (ad.add (i * sz))).run P w' = .ok (valAt w.heap agg (a.getD default) sz i) w' := by
    intro i hi
    obtain ⟨u, hu⟩ := exists_getElem? hi
    obtain ⟨_, ad, e1, e2, e3, e4⟩ := elem_at (w := w) hI ha hs hag hu
    subst e1
    exact ⟨ad, rfl, e2, u, hu, e3, e4⟩
  have hlen : (idxV (es.map (fixE agg))).reverse.length = es.length := by simp [idxV]
  refine ⟨fun k => #[.int .i64 ((es.length - 1 - k : Nat) : Int), valAt w.heap agg (a.getD default) sz (es.length - 1 - k)], fun k x hx => ?_, fun Kp hKt hKp l J Jx W hW hY h0 => ?_⟩
  · obtain ⟨u, hk, hu, rfl⟩ := hxk k x hx
    refine ⟨rfl, rfl, fun j v y hv hy => ?_⟩
    match j with
    | 0 =>
      simp at hv hy; subst hv hy
      exact ⟨rfl, fun j u z hu hz => by
        cases j with
        | zero => simp [V.cells, vcells, Value.cells] at hu hz; subst hu hz; exact ⟨rfl, .int _ _⟩
        | succ j => simp [V.cells] at hu⟩
    | 1 =>
      simp at hv hy; subst hv hy
      obtain ⟨_, _, _, u', hu', h, _⟩ := hadr _ (lt_of_getElem? hu)
      rw [hu] at hu'; cases hu'
      exact h
    | j + 2 => simp at hv
  · rw [hlen] at hY ⊢
    refine callsIn_of_wp h1 h2 trivial ?_
    rw [h3]
    have hsame : ∀ {W' : World}, Kp w W' → ∀ b i, E.imm b i → cellAt W'.heap b i = cellAt w.heap b i := fun h => hKp _ _ h
    have hbox : ∀ {W' : World}, (∀ b i, E.imm b i → cellAt W'.heap b i = cellAt w.heap b i) → (loadVar S bx).run P W' = .ok (.slice a es.length cap) W' := fun h => load1_run hSa hSs hbs ((h _ _ him).trans hcv)
    obtain ⟨yl, hyl⟩ : ∃ yl, yl = Value.func (.yield l) #[] #[] := ⟨_, rfl⟩
    simp only [List.size_toArray, List.length_cons, List.length_nil, Nat.reduceAdd, Nat.reduceSub, Array.replicate_succ, Array.replicate_zero, List.push_toArray, List.append_toArray, List.nil_append, List.cons_append]
    rw [← hyl]
    unfold backBody
    have hbin : ∀ (op : BinOp) (u v r : V) (xu xv yr : Value) (W' : World), u.toVal = some xu → v.toVal = some xv → binV op u v = some r → r.toVal = some yr → (Go.binOp op I xu xv).run P W' = .ok yr W' := by
      intro op u v r xu xv yr W' e1 e2 e3 e4
      obtain ⟨yr', e5, e6⟩ := binV_run (P := P) (w := W') (t := I) e1 e2 e3
      rw [e4] at e5; cases e5; exact e6
    have hload : ∀ {W' : World} {o : Oper} {a1 : Act}, o.op = .load S (.tmp 1) → a1.eval (.tmp 1) = .pointer (some bx) → (∀ b i, E.imm b i → cellAt W'.heap b i = cellAt w.heap b i) → (execOp a1.eval o).run P W' = .ok (.value (.slice a es.length cap)) W' := by
      intro W' o a1 ho ha1 h
      simp [execOp, ho, ha1, Instr.loadAt, Instr.sureAddr, hbox h]
    refine wpIn_seq (wpIn_region_at 4 [0, 1, 2, 3] rfl rfl ?_)
    have hwrap : ∀ z : Int, -140737488355328 ≤ z → z ≤ 140737488355328 → IntKind.i64.wrap z = z := by
      intro z h1 h2
      simp only [IntKind.wrap, IntKind.bits, IntKind.signed]
      simp
      omega
    have hsub : ∀ (z : Int) (W' : World), -140737488355327 ≤ z → z ≤ 140737488355328 → (Go.binOp .sub I (.int .i64 z) (.int .i64 1)).run P W' = .ok (.int .i64 (z - 1)) W' := fun z W' h1 h2 =>
      hbin .sub (.int .i64 z) (.int .i64 1) (.int .i64 (z - 1)) _ _ _ W' rfl rfl (by simp only [binV, if_true]; rw [hwrap _ (by omega) (by omega)]) rfl
    have hgeq : ∀ (z : Int) (W' : World), (Go.binOp .geq I (.int .i64 z) (.int .i64 0)).run P W' = .ok (.bool (decide (z ≥ 0))) W' := fun z W' =>
      hbin .geq (.int .i64 z) (.int .i64 0) (.bool (decide (z ≥ 0))) _ _ _ W' rfl rfl (by simp only [binV, if_true]) rfl
    have hne : BinOp.sub ≠ .eql ∧ BinOp.sub ≠ .neq := by decide
    have hne2 : BinOp.geq ≠ .eql ∧ BinOp.geq ≠ .neq := by decide
    refine wpOpsIn_cons (v := .slice a es.length cap) (w' := W) rfl rfl (by simp) (hload rfl rfl (hsame hW)) ?_
    simp only [List.getElem_toArray, List.getElem_cons_succ, List.getElem_cons_zero, Act.put, List.setIfInBounds_toArray, List.set_cons_succ, List.set_cons_zero]
    refine wpOpsIn_cons (v := .int .i64 es.length) (w' := W) rfl rfl (by simp) ?_ ?_
    · rw [builtin_run rfl rfl]
      simp [builtin, Builtin.len_, run_under hS, goInt, Act.eval]
    simp only [List.getElem_toArray, List.getElem_cons_succ, List.getElem_cons_zero, Act.put, List.setIfInBounds_toArray, List.set_cons_succ, List.set_cons_zero]
    refine wpOpsIn_cons (v := .int .i64 ((es.length : Int) - 1)) (w' := W) rfl rfl (by simp) ?_ ?_
    · simp only [execOp]
      simp [eqGuard_skip hne, Act.eval, hsub es.length W (by omega) (by omega)]
    simp only [List.getElem_toArray, List.getElem_cons_succ, List.getElem_cons_zero, Act.put, List.setIfInBounds_toArray, List.set_cons_succ, List.set_cons_zero]
    refine wpOpsIn_cons (v := .int .i64 ((es.length : Int) - 1)) (w' := W) rfl rfl (by simp) ?_ ?_
    · simp [execOp, Act.eval]
    simp only [List.getElem_toArray, List.getElem_cons_succ, List.getElem_cons_zero, Act.put, List.setIfInBounds_toArray, List.set_cons_succ, List.set_cons_zero]
    simp only [wpOpsIn]
    refine wpIn_block (wpIn_loop_fuel (m := es.length) (fun m a' W' => m ≤ es.length ∧ (∃ t2 t4 t5 t6 t7 t8 t9 t10 t11 t12 t13 t14 t15 t16 t17 t18, a' = act19 yl (.pointer (some bx)) t2 (.int .i64 ((m : Int) - 1)) t4 t5 t6 t7 t8 t9 t10 t11 t12 t13 t14 t15 t16 t17 t18) ∧ J (es.length - m) W' ∧ Kp w W' ∨ False)
      (.inl ⟨Nat.le_refl _, ⟨_, _, _, _, _, _, _, _, _, _, _, _, _, _, _, _, rfl⟩, by simpa using h0, hW⟩) ?_)
    rintro m a' W' (⟨hm, ⟨t2, t4, t5, t6, t7, t8, t9, t10, t11, t12, t13, t14, t15, t16, t17, t18, rfl⟩, hJ, hKW⟩ | h)
    case inr => exact h.elim
    have hsm := hsame hKW
    refine wpIn_seq (wpIn_seq (wpIn_region_at 2 [0, 1] rfl rfl ?_))
    refine wpOpsIn_cons (v := .int .i64 ((m : Int) - 1)) (w' := W') rfl rfl (by simp) (by simp [execOp, Act.eval]) ?_
    simp only [List.getElem_toArray, List.getElem_cons_succ, List.getElem_cons_zero, Act.put, List.setIfInBounds_toArray, List.set_cons_succ, List.set_cons_zero]
    refine wpOpsIn_cons (v := .bool (decide ((m : Int) - 1 ≥ 0))) (w' := W') rfl rfl (by simp) ?_ ?_
    · simp only [execOp]
      simp [eqGuard_skip hne2, Act.eval, hgeq _ W']
    simp only [List.getElem_toArray, List.getElem_cons_succ, List.getElem_cons_zero, Act.put, List.setIfInBounds_toArray, List.set_cons_succ, List.set_cons_zero]
    simp only [wpOpsIn]
    cases m with
    | zero =>
      refine wpIn_cond_false rfl (wpIn_exit ?_)
      refine ⟨rfl, _, results_none h4 _ _ _, ⟨_, rfl⟩, .inl (by simpa using hJ)⟩
    | succ m =>
      have hm1 : ((m + 1 : Nat) : Int) - 1 = (m : Int) := by omega
      have hk : es.length - 1 - (es.length - (m + 1)) = m := by omega
      obtain ⟨ad, rfl, hsp, u, hu, _, hval⟩ := hadr m (by omega)
      simp only [hm1]
      refine wpIn_cond_true (by simp [Act.eval]) (wpIn_skip ?_)
      refine wpIn_seq (wpIn_block (wpIn_seq (wpIn_region_at 8 [0, 1, 2, 3, 4, 5, 6, 7] rfl rfl ?_)))
      refine wpOpsIn_cons (v := yl) (w' := W') rfl rfl (by simp) (by simp [execOp, Act.eval]) ?_
      simp only [List.getElem_toArray, List.getElem_cons_succ, List.getElem_cons_zero, Act.put, List.setIfInBounds_toArray, List.set_cons_succ, List.set_cons_zero]
      refine wpOpsIn_cons (v := .int .i64 m) (w' := W') rfl rfl (by simp) (by simp [execOp, Act.eval]) ?_
      simp only [List.getElem_toArray, List.getElem_cons_succ, List.getElem_cons_zero, Act.put, List.setIfInBounds_toArray, List.set_cons_succ, List.set_cons_zero]
      refine wpOpsIn_cons (v := .slice (some ad) es.length cap) (w' := W') rfl rfl (by simp) (hload rfl rfl hsm) ?_
      simp only [List.getElem_toArray, List.getElem_cons_succ, List.getElem_cons_zero, Act.put, List.setIfInBounds_toArray, List.set_cons_succ, List.set_cons_zero]
      refine wpOpsIn_cons (v := .int .i64 m) (w' := W') rfl rfl (by simp) (by simp [execOp, Act.eval]) ?_
      simp only [List.getElem_toArray, List.getElem_cons_succ, List.getElem_cons_zero, Act.put, List.setIfInBounds_toArray, List.set_cons_succ, List.set_cons_zero]
      refine wpOpsIn_cons (v := .pointer (some (ad.add (m * sz)))) (w' := W') rfl rfl (by simp) ?_ ?_
      · have := indexAt_run (P := P) (w := W') (ad := ad) (len := es.length) (cap := cap) (kk := .i64) (m := (m : Int)) hS hs (by omega) (by omega)
        simp [execOp, Act.eval, this]
      simp only [List.getElem_toArray, List.getElem_cons_succ, List.getElem_cons_zero, Act.put, List.setIfInBounds_toArray, List.set_cons_succ, List.set_cons_zero]
      refine wpOpsIn_cons (v := valAt w.heap agg ad sz m) (w' := W') rfl rfl (by simp) ?_ ?_
      · have := hval W' hsm
        simp [execOp, Act.eval, Instr.loadAt, Instr.sureAddr, this]
      simp only [List.getElem_toArray, List.getElem_cons_succ, List.getElem_cons_zero, Act.put, List.setIfInBounds_toArray, List.set_cons_succ, List.set_cons_zero]
      obtain ⟨fn', tmps', asg, bod, hy, hR⟩ := hY (es.length - (m + 1)) W' hJ (by omega)
      simp only [hk, Option.getD_some] at hy
      refine wpOpsIn_round (l := l) (f := fn') (tmps := tmps') (asg := asg) (body := bod) (w' := W') rfl rfl (by simp) ?_ ?_
      · simp [execOp, Act.eval, resolve, Deferred.ofValue, invoke, hyl, hy]
      refine hR.mono ?_
      rintro e' W3 (⟨rfl, hJ3, hK3⟩ | ⟨rfl, hJx⟩)
      · dsimp only
        simp only [List.getElem_toArray, List.getElem_cons_succ, List.getElem_cons_zero, Act.put, List.setIfInBounds_toArray, List.set_cons_succ, List.set_cons_zero]
        refine wpOpsIn_cons (v := .bool false) (w' := W3) rfl rfl (by simp) (by simp [execOp, Act.eval, Op.unary]) ?_
        simp only [List.getElem_toArray, List.getElem_cons_succ, List.getElem_cons_zero, Act.put, List.setIfInBounds_toArray, List.set_cons_succ, List.set_cons_zero]
        simp only [wpOpsIn]
        refine wpIn_cond_false (by simp [Act.eval]) (wpIn_skip ?_)
        refine wpIn_region_at 3 [0, 1, 2] rfl rfl ?_
        refine wpOpsIn_cons (v := .int .i64 m) (w' := W3) rfl rfl (by simp) (by simp [execOp, Act.eval]) ?_
        simp only [List.getElem_toArray, List.getElem_cons_succ, List.getElem_cons_zero, Act.put, List.setIfInBounds_toArray, List.set_cons_succ, List.set_cons_zero]
        refine wpOpsIn_cons (v := .int .i64 ((m : Int) - 1)) (w' := W3) rfl rfl (by simp) ?_ ?_
        · simp only [execOp]
          simp [eqGuard_skip hne, Act.eval, hsub m W3 (by omega) (by omega)]
        simp only [List.getElem_toArray, List.getElem_cons_succ, List.getElem_cons_zero, Act.put, List.setIfInBounds_toArray, List.set_cons_succ, List.set_cons_zero]
        refine wpOpsIn_cons (v := .int .i64 ((m : Int) - 1)) (w' := W3) rfl rfl (by simp) (by simp [execOp, Act.eval]) ?_
        simp only [List.getElem_toArray, List.getElem_cons_succ, List.getElem_cons_zero, Act.put, List.setIfInBounds_toArray, List.set_cons_succ, List.set_cons_zero]
        simp only [wpOpsIn]
        have hJ4 : J (es.length - m) W3 := by rw [show es.length - m = es.length - (m + 1) + 1 by omega]; exact hJ3
        refine ⟨m, Nat.lt_succ_self m, .inl ⟨by omega, ?_, hJ4, hKt _ _ _ hKW hK3⟩⟩
        exact ⟨_, _, _, _, _, _, _, _, _, _, _, _, _, _, _, _, rfl⟩
      · dsimp only
        simp only [List.getElem_toArray, List.getElem_cons_succ, List.getElem_cons_zero, Act.put, List.setIfInBounds_toArray, List.set_cons_succ, List.set_cons_zero]
        refine wpOpsIn_cons (v := .bool true) (w' := W3) rfl rfl (by simp) (by simp [execOp, Act.eval, Op.unary]) ?_
        simp only [List.getElem_toArray, List.getElem_cons_succ, List.getElem_cons_zero, Act.put, List.setIfInBounds_toArray, List.set_cons_succ, List.set_cons_zero]
        simp only [wpOpsIn]
        refine wpIn_cond_true (by simp [Act.eval]) (wpIn_ret ?_)
        exact ⟨rfl, _, results_none h4 _ _ _, ⟨_, rfl⟩, .inr ⟨_, hJx⟩⟩
end
end Go.Vq
/- Steps of the V-level machine for a program that walks (no law of Go is stated here). -/
namespace Go.Vq
section
variable {cal : Callee} {its : FuncId → Iter} {base : Nat} {σ σ1 σ2 : St} {again : Nat → VCode → St → Option (Out × St)} {r : Option (Out × St)} {o1 : Out}
/-- What comes behind the first of two. -/
def afterSeq (cal : Callee) (its : FuncId → Iter) (again : Nat → VCode → St → Option (Out × St)) (base : Nat) (b : VCode) (σ1 : St) : Out → Option (Out × St)
  | .normal => step cal its again base b σ1
  | o => some (o, σ1)
theorem vseq {a b : VCode} (h : step cal its again base a σ = some (o1, σ1)) (h2 : afterSeq cal its again base b σ1 o1 = r) : step cal its again base (.seq a b) σ = r := by
  simp only [step, h]; cases o1 <;> exact h2
def afterBlock (base : Nat) (id : Nat) (keep : Option (List Nat)) (σ1 : St) : Out → Option (Out × St)
  | .exit id' => if id' = id then some (.normal, rebase? keep base σ1) else some (.exit id', σ1)
  | .normal => some (.normal, rebase? keep base σ1)
  | .ret => some (.ret, σ1)
theorem vblock {id : Nat} {keep : Option (List Nat)} {a : VCode} (h : step cal its again base a σ = some (o1, σ1)) (h2 : afterBlock base id keep σ1 o1 = r) : step cal its again base (.block id keep a) σ = r := by
  simp only [step, h]; cases o1 <;> exact h2
def pickC (b : Bool) (x y : VCode) : VCode := match b with | true => x | false => y
theorem vcond {c : Opd} {a b : VCode} {t : Bool} (hc : condV c σ = some t) (h : step cal its again base (pickC t a b) σ = r) : step cal its again base (.cond c a b) σ = r := by
  simp only [step, hc]; cases t <;> exact h
theorem vregion {ops : List VOper} (h : runOps cal base ops σ = some σ1) (hr : some (.normal, σ1) = r) : step cal its again base (.region ops false) σ = r := by rw [← hr]; simp [step, h]
theorem vdraw {ops : List VOper} (h : runDraw cal base ops [] σ = some σ1) (hr : some (.normal, σ1) = r) : step cal its again base (.region ops true) σ = r := by rw [← hr]; simp [step, h]
theorem vskip (hr : some (.normal, σ) = r) : step cal its again base .skip σ = r := hr
theorem vexit {id : Nat} (hr : some (.exit id, σ) = r) : step cal its again base (.exit id) σ = r := hr
theorem vret (hr : some (.ret, σ) = r) : step cal its again base .ret σ = r := hr
/-- A function's run to its end. -/
theorem vfun {fn : VFunc} {args : List V} {objs : List Obj} {res : Option (V × List Obj)} (h : step cal its again objs.length fn.body (start fn args objs) = some (o1, σ)) (ho : o1 = .normal ∨ o1 = .ret) (hr : finish fn objs.length σ = res) :
    ∃ o σ, step cal its again objs.length fn.body (start fn args objs) = some (o, σ) ∧ (o = .normal ∨ o = .ret) ∧ finish fn objs.length σ = res := ⟨_, _, h, ho, hr⟩
/-- A call whose result hangs on nothing. -/
theorem vcallA {f site : Nat} {args : List Opd} {d : Option Nat} {g : Option (Nat × Bool)} {bf : Nat} {vs : List V} {q : V} {τ : St} (hg : g = none)
    (h1 : ∀ k, (presArgs args k).run σ = (k vs).run σ) (h2 : V.objIds.idsIn vs = []) (hc : cal f vs [] = some (q, [])) (h3 : q.apart = true) (h4 : (putO d q .ret).run σ = some τ) :
    (VOper.prog cal base ⟨d, .call true f site args, g, bf⟩).run σ = some τ := by
  subst hg
  simp only [VOper.prog, opProg, callP, if_true, h1, List.append_nil, h2, hc, h3]
  exact h4
/-- A call that is lent what it is given. -/
theorem vcallL {f site : Nat} {args : List Opd} {d : Option Nat} {g : Option (Nat × Bool)} {bf : Nat} {vs vs' : List V} {ids : List Nat} {os os' os'' : List Obj} {q : V} {σ1 τ : St} (hg : g = none)
    (h1 : ∀ k, (lendArgs args k).run σ = (k vs).run σ1) (h2 : ∀ k, (gTheres (vs.flatMap V.leaves) k).run σ1 = k.run σ1) (h3 : ∀ k, (reach 64 (V.objIds.idsIn vs) [] k).run σ1 = (k ids).run σ1)
    (h4 : ∀ k, (getObjs ids k).run σ1 = (k os).run σ1) (hn : ids.Nodup) (h5 : rens (findIdx ids) vs = some vs') (h6 : os.mapM (objRen (findIdx ids)) = some os') (hc : cal f vs' os' = some (q, os''))
    (h7 : (match q.ren ((ids ++ newIds (base + site) (os''.length - ids.length))[·]?), os''.mapM (objRen ((ids ++ newIds (base + site) (os''.length - ids.length))[·]?)) with
          | some r', some os3 =>
            if ¬ (ids ++ newIds (base + site) (os''.length - ids.length)).Nodup ∨ os''.length < ids.length then Prog.fail else
            setObjs ids (os3.take ids.length) <| newObjs (base + site) (os3.drop ids.length) <| resRef r' fun r'' => putO d r'' .ret
          | _, _ => Prog.fail).run σ1 = some τ) :
    (VOper.prog cal base ⟨d, .call false f site args, g, bf⟩).run σ = some τ := by
  subst hg
  simp only [VOper.prog, opProg, callP, Bool.false_eq_true, if_false, h1, List.append_nil, h2, h3, h4, hn, if_true, h5, h6, hc]
  exact h7
end
end Go.Vq
namespace Go.Vq
/-- The rounds of a loop, told by a function. -/
def lrun {α : Type} (nxt : α → Option α) : Nat → α → α
  | 0, a => a
  | k + 1, a => match nxt a with | some b => lrun nxt k b | none => a
theorem vloop {α : Type} {G : VProg} {base : Nat} {keep : Option (List Nat)} {body : VCode} (st : α → St) (nxt : α → Option α) (fin : α → Out × St) (μ : α → Nat) (I : α → Prop) (M : Nat)
    (hr : ∀ a m, M ≤ m → I a → (∀ b, nxt a = some b → ∃ s, step (call G m) (itersOf G) (exec G m) base body (st a) = some (.normal, s) ∧ rebase? keep base s = st b ∧ I b ∧ μ b < μ a) ∧
      (nxt a = none → step (call G m) (itersOf G) (exec G m) base body (st a) = some (fin a) ∧ (fin a).1 ≠ .normal)) :
    ∀ (k : Nat) (a : α) (m : Nat) (σ : St), I a → μ a ≤ k → M + k ≤ m → rebase? keep base σ = st a →
      step (call G m) (itersOf G) (exec G m) base (.loop keep body) σ = some (fin (lrun nxt k a)) ∧ nxt (lrun nxt k a) = none ∧ I (lrun nxt k a)
  | k, a, m, σ, hI, hk, hm, hs => by
    obtain ⟨h1, h2⟩ := hr a m (by omega) hI
    cases hn : nxt a with
    | none =>
      obtain ⟨h3, h4⟩ := h2 hn
      have e : lrun nxt k a = a := by cases k <;> simp [lrun, hn]
      rw [e]
      rcases hf : fin a with ⟨o, s⟩
      rw [hf] at h3 h4
      exact ⟨step_loop_out hs h3 h4, hn, hI⟩
    | some b =>
      obtain ⟨s, h3, h4, h5, h6⟩ := h1 b hn
      match k, m with
      | 0, _ => omega
      | k + 1, 0 => omega
      | k + 1, m + 1 =>
        have e : lrun nxt (k + 1) a = lrun nxt k b := by simp [lrun, hn]
        rw [e]
        obtain ⟨i1, i2, i3⟩ := vloop st nxt fin μ I M hr k b m s h5 (by omega) (by omega) h4
        exact ⟨step_loop hs h3 (by rw [exec_succ]; exact i1), i2, i3⟩
end Go.Vq
namespace Go.Vq
theorem vround {cal : Callee} {its : FuncId → Iter} {again : Nat → VCode → St → Option (Out × St)} {base : Nat} {keep : Option (List Nat)} {body : VCode} {σ s t : St} (h1 : step cal its again base body σ = some (.normal, s)) (h2 : rebase? keep base s = t) :
    ∃ s, step cal its again base body σ = some (.normal, s) ∧ rebase? keep base s = t := ⟨s, h1, h2⟩
end Go.Vq
namespace Go.Vq
section
variable {base id : Nat} {keep : Option (List Nat)} {σ1 : St} {r : Option (Out × St)}
theorem vab0 (h : some (.normal, σ1) = r) : afterBlock base id none σ1 .normal = r := h
theorem vab1 (h : some (.normal, σ1) = r) : afterBlock base id none σ1 (.exit id) = r := by rw [← h]; simp [afterBlock, rebase?]
theorem vabr (h : some (.ret, σ1) = r) : afterBlock base id keep σ1 .ret = r := h
theorem vabx {id' : Nat} (hne : id' ≠ id) (h : some (.exit id', σ1) = r) : afterBlock base id keep σ1 (.exit id') = r := by rw [← h]; simp [afterBlock, hne]
theorem vabk {τ : St} (hk : rebase? keep base σ1 = τ) (h : some (.normal, τ) = r) : afterBlock base id keep σ1 .normal = r := by rw [← h]; simp [afterBlock, hk]
theorem vabkx {τ : St} (hk : rebase? keep base σ1 = τ) (h : some (.normal, τ) = r) : afterBlock base id keep σ1 (.exit id) = r := by rw [← h]; simp [afterBlock, hk]
end
end Go.Vq
namespace Go.Vq
section
variable {cal : Callee} {base : Nat} {σ τ : St}
/-- An element's address in what is told for good. -/
theorem vidx {d : Option Nat} {t sz g bf : Nat} {x : Opd} {es : List V} {e : V} {k : IntKind} {m : Int} {gd : Option (Nat × Bool)} (hg : gd = none) (hx : σ.slot t = .isl g sz es) (hi : opdV x σ = .int k m ∨ x = .val (.int k m)) (h0 : 0 ≤ m) (he : es[m.toNat]? = some e) (hp : (putO d (.iptr e.cells) .ret).run σ = some τ) :
    (VOper.prog cal base ⟨d, .indexAddr none sz (.tmp t) x, gd, bf⟩).run σ = some τ := by
  subst hg
  have hi' : ∀ k', (gInt x k').run σ = (k' m).run σ := by
    intro k'
    rcases hi with hi | rfl
    · cases x with
      | tmp i => simp only [gInt, gOpd, Prog.run]; simp only [opdV] at hi; rw [hi]
      | val v => simp [opdV] at hi
    · rfl
  simp only [VOper.prog, opProg, hi', gOpd, Prog.run, hx]
  rw [if_pos ⟨h0, trivial⟩, he]
  exact hp
end
end Go.Vq
namespace Go.Vq
/-- A function's end, piece by piece. -/
theorem vfin {fn : VFunc} {base : Nat} {σ σ' : St} {ids : List Nat} {r r' : V} {os : List Obj} (h1 : (resProg fn.ntmps base fn.results).run { σ with slots := σ.slots ++ [.gone 0] } = some σ') (hr : σ'.slot fn.ntmps = r)
    (h2 : reachV σ' 64 (List.range base ++ V.objIds r) [] = some ids) (h3 : ids.Nodup ∧ ids.take base = List.range base) (h4 : r.ren (findIdx ids) = some r') (h5 : (ids.mapM fun o => (σ'.obj o).bind (objRen (findIdx ids))) = some os) :
    finish fn base σ = some (r', os) := by
  unfold finish
  subst hr
  simp only [h1, h2, if_pos h3, h4, h5]
end Go.Vq
namespace Go.Vq
section
variable {cal : Callee} {base : Nat} {σ τ : St}
theorem foot_ite {c : Prop} [Decidable c] {p q : Prog} (hc : c) : (if c then p else q).foot σ = p.foot σ := by rw [if_pos hc]
theorem vcallA_foot {f site : Nat} {args : List Opd} {d : Option Nat} {g : Option (Nat × Bool)} {bf : Nat} {vs : List V} {q : V} {rs : List Loc} {fr : List Loc × List Loc} (hg : g = none)
    (h1 : ∀ k, (presArgs args k).foot σ = (rs ++ ((k vs).foot σ).1, ((k vs).foot σ).2)) (h2 : V.objIds.idsIn vs = []) (hc : cal f vs [] = some (q, [])) (h3 : q.apart = true) (h4 : (putO d q .ret).foot σ = fr) :
    (VOper.prog cal base ⟨d, .call true f site args, g, bf⟩).foot σ = (rs ++ fr.1, fr.2) := by
  subst hg
  simp only [VOper.prog, opProg, callP, if_true, h1, List.append_nil, h2, hc, h3, h4]
theorem vtext {d : Option Nat} {x bf g : Nat} {es : List V} {s : List UInt8} {gd : Option (Nat × Bool)} (hg : gd = none) (hx : σ.slot x = .xsl g 1 es) (ht : textV es = some s) (hp : (putO d (.str s) .ret).run σ = some τ) :
    (VOper.prog cal base ⟨d, .conv .text (.tmp x), gd, bf⟩).run σ = some τ := by
  subst hg
  simp only [VOper.prog, opProg, gOpd, Prog.run, hx, gView, optV, ht]
  exact hp
theorem vtext_foot {d : Option Nat} {x bf g : Nat} {es : List V} {s : List UInt8} {gd : Option (Nat × Bool)} {fr : List Loc × List Loc} (hg : gd = none) (hx : σ.slot x = .xsl g 1 es) (ht : textV es = some s) (hp : (putO d (.str s) .ret).foot σ = fr) :
    (VOper.prog cal base ⟨d, .conv .text (.tmp x), gd, bf⟩).foot σ = (.slot x :: fr.1, fr.2) := by
  subst hg
  simp only [VOper.prog, opProg, gOpd, Prog.foot, hx, gView, optV, ht, hp]
end
end Go.Vq
namespace Go.Vq
theorem vend {cal : Callee} {its : FuncId → Iter} {again : Nat → VCode → St → Option (Out × St)} {base : Nat} {c : VCode} {fn : VFunc} {σ s : St} {o : Out} {r : Option (V × List Obj)} (h1 : step cal its again base c σ = some (o, s)) (h2 : finish fn base s = r) :
    ∃ s, step cal its again base c σ = some (o, s) ∧ finish fn base s = r := ⟨s, h1, h2⟩
end Go.Vq
/- A law with inputs: what the V-level machine says of it is what the program does (no law of Go is stated here). -/
namespace Go.Vq
/-- What stands in the world as it is found. -/
def Args (w : World) (vs : List V) (xs : List Value) : Prop := vs.length = xs.length ∧ ∀ (i : Nat) (v : V) (x : Value), vs[i]? = some v → xs[i]? = some x → RelE (env0 w.heap) w.heap v x
theorem Args.nil (w : World) : Args w [] [] := ⟨rfl, fun i v x h => by simp at h⟩
theorem Args.cons {w : World} {v : V} {x : Value} {vs : List V} {xs : List Value} (h : RelE (env0 w.heap) w.heap v x) (hs : Args w vs xs) : Args w (v :: vs) (x :: xs) := by
  refine ⟨by simp [hs.1], fun i u y hu hy => ?_⟩
  cases i with
  | zero => simp at hu hy; subst hu hy; exact h
  | succ i => exact hs.2 i u y (by simpa using hu) (by simpa using hy)
theorem relE_leaf {E : Env} {H : Array Go.Obj} {v : V} {x : Value} (hl : v.leaf = true) (h : RelI E.imm H v x) : RelE E H v x := by
  have hx := relI_leafX h hl
  have hag : aggX x = false := by cases x <;> first | rfl | simp [leafX] at hx
  refine ⟨(shape1_leaf hl).2 hag, fun j u z hu hz => ?_⟩
  rw [cells_leaf hl] at hu; rw [vcells_leaf hag] at hz
  cases j with
  | zero => simp at hu hz; subst hu hz; exact ⟨hl, h⟩
  | succ j => simp at hu
theorem Args.core {w : World} {vs : List V} {xs : List Value} (h : Args w vs xs) : Core 0 (env0 w.heap) vs (([] : List Obj).map some) xs w.heap := by
  refine ⟨h.1, Nat.zero_le _, fun s v x hv hx => (relE_slot (h.2 s v x hv hx) _ _ _ _).1, fun o cs ho => by simp at ho, (core0 w.heap).fresh, fun s v hv r hr => ?_⟩
  obtain ⟨x, hx⟩ := exists_getElem? (l := xs) (i := s) (by rw [← h.1]; exact lt_of_getElem? hv)
  rw [(relE_slot (h.2 s v x hv hx) [] [] [] 0).2] at hr
  cases hr
theorem true_walk_args {P : Program} {G : VProg} (hG : GOk P G) {f : FuncId} {M : Nat} {vs : List V} {xs : List Value} (h : call G M f vs [] = some (.bool true, [])) (w : World) (ha : Args w vs xs) :
    Calls P f xs.toArray w fun e w' => e = .returned (.bool true) ∧ Still w w' := by
  have hb := (call_sound hG M f vs [] _ _ h).2.2 (env0 w.heap) xs w ha.core
  refine hb.mono fun e w' he => ?_
  cases e with
  | returned x =>
    obtain ⟨E', hC, hg, hs⟩ := he
    have := slot_toVal (hC.slot 0 _ x rfl rfl) (y := .bool true) rfl
    exact ⟨by rw [this], still_of hg hs⟩
  | _ => exact he.elim
/-- A law that is run already. -/
def truePrim : Prim := fun args objs => match args, objs with
  | [], [] => some (.bool true, [])
  | _, _ => none
theorem truePrim_ok {P : Program} {G : VProg} (hG : GOk P G) {f : FuncId} {M : Nat} (h : isTrue (call G M f [] []) = true) : ∀ args objs r os, truePrim args objs = some (r, os) → EnterOk P f ∧ Behaves P f args objs r os := by
  intro args objs r os hp
  unfold truePrim at hp
  split at hp
  · cases hp
    exact call_sound hG M f [] [] _ _ (of_isTrue h)
  · cases hp
/-- A program with more laws. -/
def more (prims : FuncId → Option VDef) (f0 : FuncId) (d : VDef) : FuncId → Option VDef := fun f => if f = f0 then some d else prims f
theorem more_ok {P : Program} {prims : FuncId → Option VDef} {f0 : FuncId} {run : Prim} (h : PrimsOk P prims) (h0 : ∀ args objs r os, run args objs = some (r, os) → EnterOk P f0 ∧ Behaves P f0 args objs r os) : PrimsOk P (more prims f0 (.prim run)) := by
  intro f d hf
  unfold more at hf
  split at hf
  · rename_i e
    subst e
    cases hf
    exact h0
  · exact h f d hf
end Go.Vq
/- Any arguments that are read: numbers, strings, structs and arrays of them, and slices of these (no law of Go is stated here). -/
namespace Go.Vq
open Go.ChangeShapes
/-! ### the types -/
def isAggD : TypeDesc → Bool
  | .struct _ | .array _ _ => true
  | _ => false
def aggT (P : Program) (t : TypeId) : Bool := match P.underlying t with
  | some d => isAggD d
  | none => false
/-- The fields lie one behind the other. -/
def consec (P : Program) : List Field → Nat → Nat → Bool
  | [], off, n => off == n
  | f :: fs, off, n => f.offset == off && consec P fs (off + P.cellsOf f.type) n
/-- May an argument be of this type? -/
def argT (P : Program) : Nat → Bool → TypeId → Bool
  | 0, _, _ => false
  | d + 1, sl, t => match P.underlying t with
    | some .bool | some .string => P.cellsOf t == 1
    | some (.int _) => P.cellsOf t == 1
    | some (.slice e) => P.cellsOf t == 1 && P.cellsOf e != 0 && argT P d sl e
    | some (.struct fs) => consec P fs.toList 0 (P.cellsOf t) && fs.toList.all fun f => argT P d sl f.type
    | some (.array n e) => P.cellsOf t == n * P.cellsOf e && argT P d sl e
    | _ => false
/-- The cells of values of these types. -/
inductive HasC (P : Program) : List TypeId → List V → Prop
  | nil : HasC P [] []
  | bool {t : TypeId} {ts : List TypeId} {vs : List V} (b : Bool) (h : P.underlying t = some .bool) (hs : HasC P ts vs) : HasC P (t :: ts) (.bool b :: vs)
  | int {t : TypeId} {ts : List TypeId} {vs : List V} (k : IntKind) (n : Int) (h : P.underlying t = some (.int k)) (hw : (Lit.int k n).wf = true) (hs : HasC P ts vs) : HasC P (t :: ts) (.int k n :: vs)
  | str {t : TypeId} {ts : List TypeId} {vs : List V} (s : List UInt8) (h : P.underlying t = some .string) (hl : s.length ≤ maxLen) (hs : HasC P ts vs) : HasC P (t :: ts) (.str s :: vs)
  | slice {t e : TypeId} {ts : List TypeId} {vs : List V} (es : List V) (h : P.underlying t = some (.slice e)) (hl : es.length ≤ maxLen)
      (hsh : ∀ x ∈ es, (aggT P e = true → ∃ cs, x = .agg cs) ∧ (aggT P e = false → x.leaf = true)) (hes : ∀ x ∈ es, HasC P [e] x.cells) (hs : HasC P ts vs) : HasC P (t :: ts) (.isl 0 (P.cellsOf e) es :: vs)
  | struct {t : TypeId} {ts : List TypeId} {cs vs : List V} (fs : Array Field) (h : P.underlying t = some (.struct fs)) (hc : HasC P (fs.toList.map (·.type)) cs) (hs : HasC P ts vs) : HasC P (t :: ts) (cs ++ vs)
  | array {t : TypeId} {ts : List TypeId} {cs vs : List V} (n : Nat) (e : TypeId) (h : P.underlying t = some (.array n e)) (hc : HasC P (List.replicate n e) cs) (hs : HasC P ts vs) : HasC P (t :: ts) (cs ++ vs)
/-- A value of the type. -/
def HasT (P : Program) (t : TypeId) (v : V) : Prop := (aggT P t = true → ∃ cs, v = .agg cs) ∧ (aggT P t = false → v.leaf = true) ∧ HasC P [t] v.cells

theorem HasC.append {P : Program} {ts us : List TypeId} {vs ws : List V} (h : HasC P ts vs) (h2 : HasC P us ws) : HasC P (ts ++ us) (vs ++ ws) := by
  induction h with
  | nil => exact h2
  | bool b h _ ih => exact .bool b h ih
  | int k n h hw _ ih => exact .int k n h hw ih
  | str s h hl _ ih => exact .str s h hl ih
  | slice es h hl hsh hes _ _ ih => exact .slice es h hl hsh hes ih
  | struct fs h hc _ _ ih => rw [List.cons_append, List.append_assoc]; exact .struct fs h hc ih
  | array n e h hc _ _ ih => rw [List.cons_append, List.append_assoc]; exact .array n e h hc ih
section
variable {P : Program} {t : TypeId} {ts : List TypeId} {vs : List V}
theorem HasC.inv_nil (h : HasC P [] vs) : vs = [] := by cases h; rfl
theorem HasC.inv_bool (ht : P.underlying t = some .bool) (h : HasC P (t :: ts) vs) : ∃ b ws, vs = .bool b :: ws ∧ HasC P ts ws := by
  cases h with
  | bool b h hs => exact ⟨b, _, rfl, hs⟩
  | _ => simp_all
theorem HasC.inv_int {k : IntKind} (ht : P.underlying t = some (.int k)) (h : HasC P (t :: ts) vs) : ∃ n ws, vs = .int k n :: ws ∧ (Lit.int k n).wf = true ∧ HasC P ts ws := by
  cases h with
  | int k' n h hw hs =>
    rw [ht] at h
    cases h
    exact ⟨n, _, rfl, hw, hs⟩
  | _ => simp_all
theorem HasC.inv_str (ht : P.underlying t = some .string) (h : HasC P (t :: ts) vs) : ∃ s ws, vs = .str s :: ws ∧ s.length ≤ maxLen ∧ HasC P ts ws := by
  cases h with
  | str s h hl hs => exact ⟨s, _, rfl, hl, hs⟩
  | _ => simp_all
theorem HasC.inv_slice {e : TypeId} (ht : P.underlying t = some (.slice e)) (h : HasC P (t :: ts) vs) : ∃ es ws, vs = .isl 0 (P.cellsOf e) es :: ws ∧ es.length ≤ maxLen ∧ (∀ x ∈ es, HasT P e x) ∧ HasC P ts ws := by
  cases h with
  | slice es h hl hsh hes hs =>
    rw [ht] at h
    cases h
    exact ⟨es, _, rfl, hl, fun x hx => ⟨(hsh x hx).1, (hsh x hx).2, hes x hx⟩, hs⟩
  | _ => simp_all
theorem HasC.inv_struct {fs : Array Field} (ht : P.underlying t = some (.struct fs)) (h : HasC P (t :: ts) vs) : ∃ cs ws, vs = cs ++ ws ∧ HasC P (fs.toList.map (·.type)) cs ∧ HasC P ts ws := by
  cases h with
  | struct fs' h hc hs =>
    rw [ht] at h
    cases h
    exact ⟨_, _, rfl, hc, hs⟩
  | _ => simp_all
theorem HasC.inv_array {n : Nat} {e : TypeId} (ht : P.underlying t = some (.array n e)) (h : HasC P (t :: ts) vs) : ∃ cs ws, vs = cs ++ ws ∧ HasC P (List.replicate n e) cs ∧ HasC P ts ws := by
  cases h with
  | array n' e' h hc hs =>
    rw [ht] at h
    cases h
    exact ⟨_, _, rfl, hc, hs⟩
  | _ => simp_all
theorem HasT.leaf {v : V} (ha : aggT P t = false) (h : HasT P t v) : HasC P [t] [v] := by
  have := h.2.2
  rwa [cells_leaf (h.2.1 ha)] at this
theorem HasT.agg {v : V} (ha : aggT P t = true) (h : HasT P t v) : ∃ cs, v = .agg cs ∧ HasC P [t] cs := by
  obtain ⟨cs, rfl⟩ := h.1 ha
  exact ⟨cs, rfl, h.2.2⟩
end

/-! ### what is read -/
inductive Rels (imm : Nat → Nat → Prop) (H : Array Go.Obj) : List V → List Value → Prop
  | nil : Rels imm H [] []
  | cons {v : V} {x : Value} {vs : List V} {xs : List Value} (hl : v.leaf = true) (h : RelI imm H v x) (hs : Rels imm H vs xs) : Rels imm H (v :: vs) (x :: xs)
section
variable {imm : Nat → Nat → Prop} {H : Array Go.Obj}
theorem Rels.length {vs : List V} {xs : List Value} (h : Rels imm H vs xs) : vs.length = xs.length := by
  induction h with
  | nil => rfl
  | cons _ _ _ ih => simp [ih]
theorem Rels.append {vs ws : List V} {xs ys : List Value} (h : Rels imm H vs xs) (h2 : Rels imm H ws ys) : Rels imm H (vs ++ ws) (xs ++ ys) := by
  induction h with
  | nil => exact h2
  | cons hl h _ ih => exact .cons hl h ih
theorem Rels.get {vs : List V} {xs : List Value} (h : Rels imm H vs xs) : ∀ (j : Nat) (u : V) (z : Value), vs[j]? = some u → xs[j]? = some z → u.leaf = true ∧ RelI imm H u z := by
  induction h with
  | nil => intro j u z h; simp at h
  | cons hl h _ ih =>
    intro j u z hu hz
    cases j with
    | zero => simp at hu hz; subst hu hz; exact ⟨hl, h⟩
    | succ j => exact ih j u z (by simpa using hu) (by simpa using hz)
theorem Rels.all {vs : List V} {xs : List Value} (h : Rels imm H vs xs) : ∀ u ∈ vs, u.leaf = true := by
  induction h with
  | nil => intro u hu; simp at hu
  | cons hl h _ ih => intro u hu; rcases List.mem_cons.1 hu with rfl | hu; exact hl; exact ih u hu
end

section
variable {P : Program} {w : World} {H : Type} {enc : TypeId × Value → H}
/-- The fields of a struct. -/
theorem fields_rel {imm : Nat → Nat → Prop} {Hp : Array Go.Obj} {cs : List Value} : ∀ (fs : List Field) (off n : Nat), consec P fs off n = true → cs.length = n →
    (∀ f ∈ fs, ∃ vs, HasC P [f.type] vs ∧ Rels imm Hp vs ((cs.drop f.offset).take (P.cellsOf f.type))) → ∃ vs, HasC P (fs.map (·.type)) vs ∧ Rels imm Hp vs (cs.drop off) := by
  intro fs
  induction fs with
  | nil =>
    intro off n hc hl _
    simp [consec] at hc
    refine ⟨[], .nil, ?_⟩
    rw [List.drop_eq_nil_of_le (by omega)]
    exact .nil
  | cons f fs ih =>
    intro off n hc hl hf
    simp [consec] at hc
    obtain ⟨vs, h1, h2⟩ := hf f (by simp)
    obtain ⟨ws, h3, h4⟩ := ih _ _ hc.2 hl fun g hg => hf g (by simp [hg])
    refine ⟨vs ++ ws, h1.append h3, ?_⟩
    rw [hc.1] at h2
    have := h2.append h4
    rwa [← List.drop_drop, List.take_append_drop] at this
theorem elems_rel {imm : Nat → Nat → Prop} {Hp : Array Go.Obj} {cs : List Value} {e : TypeId} : ∀ (n i : Nat), cs.length = (i + n) * P.cellsOf e →
    (∀ j, j < i + n → ∃ vs, HasC P [e] vs ∧ Rels imm Hp vs ((cs.drop (j * P.cellsOf e)).take (P.cellsOf e))) → ∃ vs, HasC P (List.replicate n e) vs ∧ Rels imm Hp vs (cs.drop (i * P.cellsOf e)) := by
  intro n
  induction n with
  | zero =>
    intro i hl _
    refine ⟨[], .nil, ?_⟩
    rw [List.drop_eq_nil_of_le (by simpa using Nat.le_of_eq hl)]
    exact .nil
  | succ n ih =>
    intro i hl hf
    obtain ⟨vs, h1, h2⟩ := hf i (by omega)
    obtain ⟨ws, h3, h4⟩ := ih (i + 1) (by rw [hl]; congr 1; omega) fun j hj => hf j (by omega)
    refine ⟨vs ++ ws, h1.append h3, ?_⟩
    have := h2.append h4
    rwa [Nat.add_mul, Nat.one_mul, ← List.drop_drop, List.take_append_drop] at this

theorem env0_imm {Hp : Array Go.Obj} {b k : Nat} {y : Value} (h : cellAt Hp b k = some y) : (env0 Hp).imm b k := by
  unfold cellAt at h
  split at h
  · rename_i hb
    unfold Env.imm env0
    simp only
    rw [if_pos (lt_of_getElem?' hb)]
    trivial
  · cases h
theorem imm_env0 {Hp : Array Go.Obj} {b k : Nat} (h : b < Hp.size) : (env0 Hp).imm b k := by
  unfold Env.imm env0
  simp only
  rw [if_pos h]
  trivial
/-- What is read there, as the V-level machine has it. -/
theorem trod_rel {base : Nat} {spare : Nat → Bool} {held : Bool} (hspare : ∀ b, spare b = true) : ∀ (n d : Nat) (sl : Bool) (t : TypeId) (cs : List Value) (x : DataW H × List MemPlace), argT P d sl t = true →
    DataW.trod enc P w base spare held n t cs = some x → ∃ vs, HasC P [t] vs ∧ Rels (env0 w.heap).imm w.heap vs cs := by
  intro n
  induction n with
  | zero => intro d sl t cs x _ h; simp [DataW.trod] at h
  | succ n ih =>
    intro d sl t cs x ha h
    cases d with
    | zero => simp [argT] at ha
    | succ d =>
      unfold argT at ha
      split at ha
      · rename_i ht
        obtain ⟨b, rfl, _⟩ := DataW.trod_bool ht h
        exact ⟨_, .bool b ht .nil, .cons rfl (.bool b) .nil⟩
      · rename_i ht
        obtain ⟨s, rfl, _, hs⟩ := DataW.trod_string ht h
        have e : s = ⟨s.data.toList.toArray⟩ := by cases s; rfl
        refine ⟨[.str s.data.toList], .str _ ht (by have h0 : s.data.toList.length = s.size := Array.length_toList; rw [h0]; exact hs) .nil, .cons rfl ?_ .nil⟩
        conv => rhs; rw [e]
        exact .str _
      · rename_i k ht
        obtain ⟨z, rfl, _, hw⟩ := DataW.trod_int ht h
        exact ⟨_, .int k z ht hw .nil, .cons rfl (.int k z) .nil⟩
      · rename_i e ht
        simp only [Bool.and_eq_true, bne_iff_ne, ne_eq] at ha
        obtain ⟨⟨hsz, hne⟩, hae⟩ := ha
        rcases DataW.trod_slice ht h with ⟨rfl, _⟩ | ⟨a, len, cap, elems, rest, m, hm, rfl, _, hb, hl, hcap, hel, hread, hrest, _⟩
        · exact ⟨_, .slice [] ht (Nat.zero_le _) (fun x h => by cases h) (fun x h => by cases h) .nil, .cons rfl (isl_of (Elems.nil _ _ _ _) (Nat.le_refl _) (fun _ => rfl) (fun ad h => by cases h) (fun ad k h => by cases h)) .nil⟩
        · cases hm
          have hspot : cap ≠ 0 → a.spot = none := by
            intro hc0
            have h0 : ∃ y, (w.cells? base (a.add (0 * P.cellsOf e)) (P.cellsOf e)).bind (DataW.trod enc P w base spare held n e) = some y := by
              rcases Nat.eq_zero_or_pos len with h0 | h0
              · obtain ⟨hr1, hr2⟩ := hrest (hspare _)
                have := hr2 0 (by omega)
                obtain ⟨y, hy⟩ := exists_getElem? (l := rest) (i := 0) (by omega)
                rw [hy, show len + 0 = 0 by omega] at this
                exact ⟨_, this⟩
              · have := hread 0 h0
                obtain ⟨y, hy⟩ := exists_getElem? (l := elems) (i := 0) (by omega)
                rw [hy] at this
                exact ⟨_, this⟩
            obtain ⟨y, hy⟩ := h0
            rw [Option.bind_eq_some_iff] at hy
            obtain ⟨cs', h1, _⟩ := hy
            obtain ⟨_, h5, h6⟩ := World.cells?_some h1
            have h7 := h6 0 (by omega)
            obtain ⟨z, hz⟩ := exists_getElem? (l := cs') (i := 0) (by omega)
            rw [hz] at h7
            simp only [Addr.add, Nat.zero_mul, if_true] at h7
            unfold World.cell? at h7
            split at h7
            · split at h7
              · cases h7
              · rename_i hs
                simpa using hs
            · cases h7
          have hone : ∀ i, i < len → ∃ vs cs', HasC P [e] vs ∧ w.cells? base (a.add (i * P.cellsOf e)) (P.cellsOf e) = some cs' ∧ Rels (env0 w.heap).imm w.heap vs cs' := by
            intro i hi
            have := hread i hi
            rw [List.getElem?_eq_getElem (by omega), Option.bind_eq_some_iff] at this
            obtain ⟨cs', h1, h2⟩ := this
            obtain ⟨vs, h3, h4⟩ := ih d sl e cs' _ hae h2
            exact ⟨vs, cs', h3, h1, h4⟩
          let mk : List V → V := fun vs => if aggT P e = true then .agg vs else vs.headD .nil
          have hmk : ∀ vs, HasC P [e] vs → (mk vs).cells = vs ∧ (aggT P e = true → ∃ cs, mk vs = .agg cs) ∧ (aggT P e = false → (mk vs).leaf = true) := by
            intro vs hv
            by_cases hg : aggT P e = true
            · simp only [mk, hg, if_true]
              exact ⟨rfl, fun _ => ⟨_, rfl⟩, fun h => by cases h⟩
            · have hg' : aggT P e = false := by simpa using hg
              simp only [mk, hg', if_neg (by decide : ¬ (false = true))]
              cases hv with
              | bool b _ hs => cases hs; exact ⟨rfl, fun h => (by cases h), fun _ => rfl⟩
              | int _ _ _ _ hs => cases hs; exact ⟨rfl, fun h => (by cases h), fun _ => rfl⟩
              | str _ _ _ hs => cases hs; exact ⟨rfl, fun h => (by cases h), fun _ => rfl⟩
              | slice _ _ _ _ _ hs => cases hs; exact ⟨rfl, fun h => (by cases h), fun _ => rfl⟩
              | struct fs h _ _ => simp [aggT, h, isAggD] at hg'
              | array _ _ h _ _ => simp [aggT, h, isAggD] at hg'
          let es : List V := (List.range len).map fun i => if hi : i < len then mk (Classical.choose (hone i hi)) else .nil
          have hlen : es.length = len := by simp [es]
          have hget : ∀ i u, es[i]? = some u → ∃ vs cs', u = mk vs ∧ HasC P [e] vs ∧ w.cells? base (a.add (i * P.cellsOf e)) (P.cellsOf e) = some cs' ∧ Rels (env0 w.heap).imm w.heap vs cs' := by
            intro i u hu
            have hi : i < len := by have := lt_of_getElem? hu; omega
            obtain ⟨cs', h1⟩ := Classical.choose_spec (hone i hi)
            refine ⟨Classical.choose (hone i hi), cs', ?_, h1⟩
            rw [List.getElem?_eq_getElem (by omega)] at hu
            simp only [es, List.getElem_map, List.getElem_range, dif_pos hi, Option.some.injEq] at hu
            exact hu.symm
          have hmem : ∀ u ∈ es, ∃ vs cs', u = mk vs ∧ HasC P [e] vs ∧ cs'.length = P.cellsOf e ∧ Rels (env0 w.heap).imm w.heap vs cs' := by
            intro u hu
            obtain ⟨i, hi⟩ := List.getElem?_of_mem hu
            obtain ⟨vs, cs', h1, h2, h3, h4⟩ := hget i u hi
            exact ⟨vs, cs', h1, h2, (World.cells?_some h3).2.1, h4⟩
          have hE : Elems (env0 w.heap).imm w.heap (some a) (P.cellsOf e) es := by
            refine ⟨fun u hu => ?_, fun i u j v hi hj => ?_⟩
            · obtain ⟨vs, cs', rfl, h2, h3, h4⟩ := hmem u hu
              unfold elemOk
              rw [(hmk vs h2).1]
              exact ⟨by rw [h4.length, h3], h4.all⟩
            · obtain ⟨vs, cs', rfl, h2, h3, h4⟩ := hget i u hi
              rw [(hmk vs h2).1] at hj
              obtain ⟨_, h5, h6⟩ := World.cells?_some h3
              have hjl := lt_of_getElem? hj
              rw [h4.length, h5] at hjl
              have h7 := h6 j hjl
              obtain ⟨y, hy⟩ := exists_getElem? (l := cs') (i := j) (by omega)
              refine ⟨a, y, rfl, ?_, (h4.get j v y hj hy).2⟩
              have hspot := hspot (by have := lt_of_getElem? hi; omega)
              rw [hy, cell_at (by rw [add_spot hspot]), add_spot hspot] at h7
              rw [← h7]
              congr 1
              simp only
              omega
          refine ⟨_, .slice es ht (by omega) (fun u hu => ?_) (fun u hu => ?_) .nil, .cons rfl ?_ .nil⟩
          · obtain ⟨vs, cs', rfl, h2, _⟩ := hmem u hu
            exact (hmk vs h2).2
          · obtain ⟨vs, cs', rfl, h2, _⟩ := hmem u hu
            rwa [(hmk vs h2).1]
          · have := isl_of (g := 0) (cap := cap) hE (by omega) (fun h => by cases h) (fun ad h => by cases h; exact hspot) (fun ad k h hk => by
              cases h
              have : 0 < P.cellsOf e ∧ 0 < es.length := by
                rcases Nat.eq_zero_or_pos (P.cellsOf e) with h0 | h0
                · rw [h0] at hk; omega
                · rcases Nat.eq_zero_or_pos es.length with h1 | h1
                  · rw [h1] at hk; omega
                  · exact ⟨h0, h1⟩
              obtain ⟨u, hu⟩ := exists_getElem? (l := es) this.2
              obtain ⟨he1, _⟩ := hE.1 u (List.mem_of_getElem? hu)
              obtain ⟨v, hv⟩ := exists_getElem? (l := u.cells) (i := 0) (by omega)
              obtain ⟨ad, y, h1, h2, _⟩ := hE.2 0 u 0 v hu hv
              cases h1
              have := env0_imm h2
              unfold cellAt at h2
              split at h2
              · rename_i hb2
                exact imm_env0 (lt_of_getElem?' hb2)
              · cases h2)
            rwa [hlen] at this
      · rename_i fs ht
        simp only [Bool.and_eq_true, List.all_eq_true] at ha
        obtain ⟨xs, m, hm, _, hlen, hxl, hf⟩ := DataW.trod_struct ht h
        cases hm
        obtain ⟨vs, h1, h2⟩ := fields_rel (imm := (env0 w.heap).imm) (Hp := w.heap) fs.toList 0 _ ha.1 hlen fun f hfm => by
          obtain ⟨i, hi⟩ := List.getElem?_of_mem hfm
          have hi' : fs[i]? = some f := by simpa using hi
          have hlt : i < xs.length := by rw [hxl]; simpa using lt_of_getElem? hi
          have := hf i f hi'
          rw [List.getElem?_eq_getElem hlt] at this
          exact ih d sl f.type _ _ (ha.2 f hfm) this
        refine ⟨vs ++ [], .struct fs ht h1 .nil, ?_⟩
        simpa using h2
      · rename_i k e ht
        simp only [Bool.and_eq_true, beq_iff_eq] at ha
        obtain ⟨xs, m, hm, _, hlen, hxl, hf⟩ := DataW.trod_array ht h
        cases hm
        obtain ⟨vs, h1, h2⟩ := elems_rel (imm := (env0 w.heap).imm) (Hp := w.heap) (cs := cs) (P := P) (e := e) k 0 (by rw [hlen, ha.1, Nat.zero_add]) fun j hj => by
          have := hf j (by omega)
          rw [List.getElem?_eq_getElem (by omega)] at this
          exact ih d sl e _ _ ha.2 this
        refine ⟨vs ++ [], .array k e ht h1 .nil, ?_⟩
        simpa using h2
      · cases ha
end
end Go.Vq
/- A law with any arguments: they are read, and they stand behind it as they stood (no law of Go is stated here). -/
namespace Go.Vq
open Go.ChangeShapes
section
variable {P : Program} {w w' : World} {H : Type} {enc : TypeId × Value → H}
/-- What is read with the spare cells is read so too where they are to be read just in some blocks. -/
theorem trod_spare {base : Nat} {sp : Nat → Bool} {held : Bool} : ∀ (n d : Nat) (sl : Bool) (t : TypeId) (cs : List Value) (x : DataW H × List MemPlace), argT P d sl t = true →
    DataW.trod enc P w base (fun _ => true) held n t cs = some x → (∀ p ∈ x.2, sp p.block = true) → DataW.trod enc P w base sp held n t cs = some x := by
  intro n
  induction n with
  | zero => intro d sl t cs x _ h; simp [DataW.trod] at h
  | succ n ih =>
    intro d sl t cs x ha h hs
    cases d with
    | zero => simp [argT] at ha
    | succ d =>
      unfold argT at ha
      split at ha
      · rename_i ht
        obtain ⟨b, rfl, rfl⟩ := DataW.trod_bool ht h
        simp [DataW.trod, ht]
      · rename_i ht
        obtain ⟨s, rfl, rfl, hl⟩ := DataW.trod_string ht h
        rw [DataW.trod_step]
        unfold DataW.trodStep
        simp only [ht, if_pos hl]
      · rename_i k ht
        obtain ⟨z, rfl, rfl, hw⟩ := DataW.trod_int ht h
        simp [DataW.trod, ht, hw]
      · rename_i e ht
        simp only [Bool.and_eq_true, bne_iff_ne, ne_eq] at ha
        obtain ⟨⟨hsz, hne⟩, hae⟩ := ha
        rcases DataW.trod_slice ht h with ⟨rfl, rfl⟩ | ⟨a, len, cap, _, _, _, _, rfl, _⟩
        · simp [DataW.trod, ht]
        · rw [DataW.trod_step] at h ⊢
          unfold DataW.trodStep at h ⊢
          simp only [ht] at h ⊢
          split at h
          · rename_i hc
            rw [if_pos hc]
            simp only [Option.map_eq_some_iff, Option.bind_eq_some_iff, if_true] at h ⊢
            obtain ⟨elems, hel, rest, hrest, rfl⟩ := h
            have one : ∀ (i : Nat) (y : DataW H × List MemPlace), y ∈ elems ++ rest → ((w.cells? base (a.add (i * P.cellsOf e)) (P.cellsOf e)).bind (DataW.trod enc P w base (fun _ => true) held n e)) = some y →
                ((w.cells? base (a.add (i * P.cellsOf e)) (P.cellsOf e)).bind (DataW.trod enc P w base sp held n e)) = some y := by
              intro i y hy hv
              simp only [Option.bind_eq_some_iff] at hv ⊢
              obtain ⟨cs', hc', hy'⟩ := hv
              refine ⟨cs', hc', ih d sl e _ _ hae hy' fun p hp => hs p ?_⟩
              simp only [List.mem_append, List.mem_flatMap]
              right
              exact ⟨y, by simpa using hy, hp⟩
            refine ⟨elems, mapM_carry hel (fun i y hi hy => one i y (by simp [hy])), rest, ?_, rfl⟩
            have hlen : elems.length = len := by simpa using mapM_some_length hel
            have hrl : rest.length = cap - len := by simpa using mapM_some_length hrest
            split
            · exact mapM_carry hrest (fun j y hj hy => one (len + j) y (by simp [hy]))
            · rename_i hsp
              have : (elems.length + rest.length) * P.cellsOf e = 0 := by
                rcases Nat.eq_zero_or_pos ((elems.length + rest.length) * P.cellsOf e) with h0 | h0
                · exact h0
                · exfalso
                  have := hs (.cell a.block (a.off + 0)) (by
                    simp only [List.mem_append]
                    left
                    exact MemPlace.mem_row.2 ⟨0, h0, rfl⟩)
                  exact hsp this
              have h0 : elems.length + rest.length = 0 := by
                rcases Nat.mul_eq_zero.1 this with h0 | h0
                · exact h0
                · exact absurd h0 hne
              have : rest = [] := List.eq_nil_of_length_eq_zero (by omega)
              rw [this]
          · cases h
      · rename_i fs ht
        simp only [Bool.and_eq_true, List.all_eq_true] at ha
        rw [DataW.trod_step] at h ⊢
        unfold DataW.trodStep at h ⊢
        simp only [ht] at h ⊢
        split at h
        · rename_i hc
          rw [if_pos hc]
          simp only [Option.map_eq_some_iff] at h ⊢
          obtain ⟨xs, hx, rfl⟩ := h
          exact ⟨xs, mapM_carry hx (fun f y hf hy hv => ih d sl f.type _ _ (ha.2 f hf) hv fun p hp => hs p (List.mem_flatMap.2 ⟨y, hy, hp⟩)), rfl⟩
        · cases h
      · rename_i k e ht
        simp only [Bool.and_eq_true, beq_iff_eq] at ha
        rw [DataW.trod_step] at h ⊢
        unfold DataW.trodStep at h ⊢
        simp only [ht] at h ⊢
        split at h
        · rename_i hc
          rw [if_pos hc]
          simp only [Option.map_eq_some_iff] at h ⊢
          obtain ⟨xs, hx, rfl⟩ := h
          exact ⟨xs, mapM_carry hx (fun f y _ hy hv => ih d sl _ _ _ ha.2 hv fun p hp => hs p (List.mem_flatMap.2 ⟨y, hy, hp⟩)), rfl⟩
        · cases h
      · cases ha
theorem Still.sameAt {p : MemPlace} (h : Still w w') (hp : p.block < w.heap.size) : w.sameAt w' p := by
  have hk := h.kept.2.2 p.block hp
  cases p with
  | cell b off =>
    simp only [MemPlace.block] at hp hk
    simp only [World.sameAt, World.cell?]
    cases h1 : w.heap[b]? with
    | none => rw [Array.getElem?_eq_getElem hp] at h1; cases h1
    | some o =>
      rw [h1] at hk
      cases h2 : w'.heap[b]? with
      | none => rw [h2] at hk; cases o <;> simp_all
      | some o' =>
        rw [h2] at hk
        cases o <;> cases o' <;> simp_all
  | map b =>
    simp only [MemPlace.block] at hp hk
    simp only [World.sameAt]
    cases h1 : w.heap[b]? with
    | none => rw [Array.getElem?_eq_getElem hp] at h1; cases h1
    | some o =>
      rw [h1] at hk
      cases h2 : w'.heap[b]? with
      | none => rw [h2] at hk; cases o <;> simp_all
      | some o' =>
        rw [h2] at hk
        cases o <;> cases o' <;> simp_all
        · obtain ⟨rfl, rfl, hsz, hc⟩ := hk
          congr 1
          exact Array.ext_getElem? hc
theorem trodAll_still {held : Bool} {sp : Nat → Bool} (hS : Still w w') : ∀ {ts : List TypeId} {vs : List Value} {ds : List (DataW H)} {ps : List MemPlace}, (∀ t ∈ ts, ∃ d, argT P d true t = true) →
    DataW.TrodAll enc P w 0 (fun _ => true) held ts vs ds ps → (∀ p ∈ ps, p.block < w.heap.size) → (∀ p ∈ ps, sp p.block = true) → DataW.TrodAll enc P w' 0 sp held ts vs ds ps
  | [], _, _, _, _, h, _, _ => by
    obtain ⟨rfl, rfl, rfl⟩ := trodAll_nil h
    exact trodAll_mk0
  | t :: ts, _, _, _, hts, h, hlt, hsp => by
    obtain ⟨v, vs1, d, ds1, a, c, rfl, rfl, rfl, ⟨n, h1⟩, h2⟩ := trodAll_cons h
    obtain ⟨dd, hd⟩ := hts t (by simp)
    refine trodAll_cons_mk ⟨n, trod_spare n dd true t _ _ hd (DataW.trod_carry n t _ _ h1 fun p hp => hS.sameAt (hlt p (by simp; exact .inl hp))) fun p hp => hsp p (by simp; exact .inl hp)⟩ ?_
    exact trodAll_still hS (fun t ht => hts t (by simp [ht])) h2 (fun p hp => hlt p (by simp [hp])) (fun p hp => hsp p (by simp [hp]))

/-! ### what is read -/
theorem cell_spot {r : Reach} {base : Nat} {u : TypeId} {a : Addr} {l c : Nat} (h : Cell.okWide P w r base u (.slice (some a) l c)) : a.spot = none := by
  unfold Cell.okWide at h
  split at h <;> simp_all [Cell.ok]
  split at h <;> simp_all
  exact h.2.2.2.1
theorem okWide_agg {r : Reach} {base : Nat} {t : TypeId} {v : Value} (h : Value.okWide P w r base t v) (ha : aggT P t = true) : ∃ cs, v = .agg cs ∧ ∀ a l c, Value.slice (some a) l c ∈ cs.toList → a.spot = none := by
  have h' : ∃ cs, v = .agg cs ∧ cs.size = P.cellsOf t ∧ Row.okWide P w r base t cs := by
    unfold aggT at ha
    unfold Value.okWide at h
    cases hu : P.underlying t with
    | none => rw [hu] at ha; cases ha
    | some dsc =>
      rw [hu] at ha h
      cases dsc <;> first | exact h | cases ha
  obtain ⟨cs, rfl, _, ts, _, _, hc⟩ := h'
  refine ⟨cs, rfl, fun a l c hm => ?_⟩
  obtain ⟨i, hi, e⟩ := Array.mem_iff_getElem.1 (Array.mem_toList_iff.1 hm)
  obtain ⟨u, _, hu⟩ := hc i (.slice (some a) l c) (by rw [Array.getElem?_eq_getElem hi, e])
  exact cell_spot hu
theorem okWide_leaf {r : Reach} {base d : Nat} {sl : Bool} {t : TypeId} {v : Value} (h : Value.okWide P w r base t v) (ha : aggT P t = false) (ht : argT P d sl t = true) : aggX v = false ∧ ∀ a l c, v = .slice (some a) l c → a.spot = none := by
  have hc : Cell.okWide P w r base t v := by
    unfold aggT at ha
    unfold Value.okWide at h
    split at h <;> simp_all [isAggD]
  refine ⟨?_, fun a l c e => by subst e; exact cell_spot hc⟩
  cases v with
  | agg cs =>
    exfalso
    cases hu : P.underlying t with
    | none => simp_all [Cell.okWide, Cell.ok]
    | some dsc => cases dsc <;> simp_all [Cell.okWide, Cell.ok]
  | _ => rfl
/-- Values of these types. -/
inductive HasTs (P : Program) : List TypeId → List V → Prop
  | nil : HasTs P [] []
  | cons {t : TypeId} {v : V} {ts : List TypeId} {vs : List V} (h : HasT P t v) (hs : HasTs P ts vs) : HasTs P (t :: ts) (v :: vs)
theorem args_rel {held : Bool} {r : Reach} {base : Nat} : ∀ {ts : List TypeId} {vs : List Value} {ds : List (DataW H)} {ps : List MemPlace}, (∀ t ∈ ts, ∃ d, argT P d true t = true) →
    DataW.TrodAll enc P w 0 (fun _ => true) held ts vs ds ps → (∀ (j : Nat) (t : TypeId) (v : Value), ts[j]? = some t → vs[j]? = some v → Value.okWide P w r base t v) →
    ∃ us : List V, Args w us vs ∧ HasTs P ts us
  | [], _, _, _, _, h, _ => by
    obtain ⟨rfl, rfl, rfl⟩ := trodAll_nil h
    exact ⟨[], .nil w, .nil⟩
  | t :: ts, _, _, _, hts, h, hok => by
    obtain ⟨v, vs1, d, ds1, a, c, rfl, rfl, rfl, ⟨n, h1⟩, h2⟩ := trodAll_cons h
    obtain ⟨dd, hd⟩ := hts t (by simp)
    obtain ⟨us, h3, h4⟩ := args_rel (fun t ht => hts t (by simp [ht])) h2 (fun j t v ht hv => hok (j + 1) t v (by simpa using ht) (by simpa using hv))
    have h0 := hok 0 t v rfl rfl
    cases hg : aggT P t with
    | true =>
      obtain ⟨cs, rfl, hsp⟩ := okWide_agg h0 hg
      obtain ⟨ws, h5, h6⟩ := trod_rel (fun _ => rfl) n dd true t _ _ hd h1
      refine ⟨.agg ws :: us, .cons ⟨⟨cs, rfl, h6.length⟩, fun j u z hu hz => h6.get j u z hu hz⟩ h3, .cons ⟨fun _ => ⟨_, rfl⟩, fun h => absurd (hg.symm.trans h) (by decide), h5⟩ h4⟩
    | false =>
      obtain ⟨hx, hsp⟩ := okWide_leaf h0 hg hd
      have hcells : v.cells.toList = [v] := by cases v <;> first | rfl | cases hx
      rw [hcells] at h1
      obtain ⟨ws, h5, h6⟩ := trod_rel (fun _ => rfl) n dd true t _ _ hd h1
      have hl := h6.length
      cases h6 with
      | cons hl1 hr hn =>
        rename_i u us'
        cases hn
        refine ⟨u :: us, .cons (relE_leaf hl1 hr) h3, .cons ⟨fun h => (by rw [hg] at h; cases h), fun _ => hl1, ?_⟩ h4⟩
        rwa [cells_leaf hl1]
end
theorem trodAll_len {H : Type} {enc : TypeId × Value → H} {P : Program} {w : World} {base : Nat} {sp : Nat → Bool} {held : Bool} : ∀ {ts : List TypeId} {vs : List Value} {ds : List (DataW H)} {ps : List MemPlace}, DataW.TrodAll enc P w base sp held ts vs ds ps → ds.length = ts.length
  | [], _, _, _, h => by
    obtain ⟨rfl, rfl, rfl⟩ := trodAll_nil h
    rfl
  | t :: ts, _, _, _, h => by
    obtain ⟨v, vs1, d, ds1, a, c, rfl, rfl, rfl, _, h2⟩ := trodAll_cons h
    simp [trodAll_len h2]
open Go.WideShapes Go.ChangeShapes Go.RowKit in
/-- The row's end, for any arguments, where what stood there stands as it stood. -/
theorem post_args {H : Type} {enc : TypeId × Value → H} {P : Program} {f : Func} {s : ChangeSpec} {apart fresh handsOn again : Bool} {W W' : World} {args : Array Value} {ds gs : List (DataW H)} {before : List MemPlace} {tb : TypeId} (d : Nat)
    (hW : DataW.Whole enc P f.params.toList s.vars apart W args.toList ds gs before) (hS : Still W W') (hty : (f.params.toList.all fun t => argT P d true t) = true)
    (hv : s.vars = []) (hf : ∀ l : List (DataW H), l.length = f.params.size → s.fn H l = ⟨[.lit (.bool true)], l, []⟩) (hr : f.resultTypes = #[tb]) (hb : P.underlying tb = some .bool) :
    s.post enc P f apart fresh handsOn again W args (.bool true) W' := by
  have hlt := hW.lt
  obtain ⟨pa, pv, hA, hV, rfl, hz, hn⟩ := id hW
  rw [hv] at hV
  obtain ⟨rfl, rfl⟩ := trodVars_none hV
  simp only [List.append_nil] at hW hlt
  have hty' : ∀ t ∈ f.params.toList, ∃ d, argT P d true t = true := fun t ht => ⟨d, List.all_eq_true.1 hty t ht⟩
  have hdl : (ds ++ []).length = f.params.size := by rw [List.append_nil, trodAll_len hA]; simp
  refine post_still (pa := pa) (pv := []) hW (fun b sp hd => ?_) (fun sp hsp => ?_) (fun sp _ => ?_) (by simp) hS (ok_one hr rfl (okWide_bool_mk hb _))
  · rw [hf _ hdl, hr]
    exact trodAll_cons_mk (p' := []) (shut_bool hb _) trodAll_mk0
  · rw [hf _ hdl]
    simp only [List.append_nil]
    exact trodAll_still hS hty' hA hlt hsp
  · rw [hf _ hdl, hv]
    show DataW.TrodVars enc P W' sp [] [] []
    rfl
/-! ### values of some types -/
theorem mapx {α : Type} {f : α → V} {p : α → Prop} : ∀ {es : List V}, (∀ x ∈ es, ∃ a, x = f a ∧ p a) → ∃ l : List α, es = l.map f ∧ ∀ a ∈ l, p a
  | [], _ => ⟨[], rfl, fun a h => by simp at h⟩
  | x :: es, h => by
    obtain ⟨a, rfl, ha⟩ := h x (by simp)
    obtain ⟨l, rfl, hl⟩ := mapx (es := es) fun y hy => h y (by simp [hy])
    exact ⟨a :: l, rfl, fun b hb => by rcases List.mem_cons.1 hb with rfl | hb; exact ha; exact hl b hb⟩
section
variable {P : Program} {t e : TypeId} {v : V}
theorem HasTs.inv {ts : List TypeId} {vs : List V} (h : HasTs P (t :: ts) vs) : ∃ v us, vs = v :: us ∧ HasT P t v ∧ HasTs P ts us := by
  cases h with
  | cons h hs => exact ⟨_, _, rfl, h, hs⟩
theorem HasTs.inv_nil {vs : List V} (h : HasTs P [] vs) : vs = [] := by cases h; rfl
theorem aggT_of {d : TypeDesc} (h : P.underlying t = some d) : aggT P t = isAggD d := by simp [aggT, h]
theorem HasT.int {k : IntKind} (ht : P.underlying t = some (.int k)) (h : HasT P t v) : ∃ n, v = .int k n ∧ (Lit.int k n).wf = true := by
  obtain ⟨n, ws, h1, h2, h3⟩ := (h.leaf (by rw [aggT_of ht]; rfl)).inv_int ht
  cases h1
  exact ⟨n, rfl, h2⟩
theorem HasT.str (ht : P.underlying t = some .string) (h : HasT P t v) : ∃ s, v = .str s ∧ s.length ≤ maxLen := by
  obtain ⟨n, ws, h1, h2, h3⟩ := (h.leaf (by rw [aggT_of ht]; rfl)).inv_str ht
  cases h1
  exact ⟨n, rfl, h2⟩
theorem HasT.slice (ht : P.underlying t = some (.slice e)) (h : HasT P t v) : ∃ es, v = .isl 0 (P.cellsOf e) es ∧ es.length ≤ maxLen ∧ ∀ x ∈ es, HasT P e x := by
  obtain ⟨n, ws, h1, h2, h3, h4⟩ := (h.leaf (by rw [aggT_of ht]; rfl)).inv_slice ht
  cases h1
  exact ⟨n, rfl, h2, h3⟩
theorem HasT.ints {k : IntKind} (ht : P.underlying t = some (.slice e)) (he : P.underlying e = some (.int k)) (hc : P.cellsOf e = 1) (h : HasT P t v) : ∃ ns : List Int, v = .isl 0 1 (ns.map (V.int k)) ∧ ∀ n ∈ ns, (Lit.int k n).wf = true := by
  obtain ⟨es, rfl, _, h2⟩ := h.slice ht
  obtain ⟨l, rfl, h3⟩ := mapx (f := V.int k) fun x hx => (h2 x hx).int he
  exact ⟨l, by rw [hc], h3⟩
theorem HasT.strs (ht : P.underlying t = some (.slice e)) (he : P.underlying e = some .string) (hc : P.cellsOf e = 1) (h : HasT P t v) : ∃ ss : List (List UInt8), v = .isl 0 1 (ss.map V.str) ∧ ∀ s ∈ ss, s.length ≤ maxLen := by
  obtain ⟨es, rfl, _, h2⟩ := h.slice ht
  obtain ⟨l, rfl, h3⟩ := mapx (f := V.str) fun x hx => (h2 x hx).str he
  exact ⟨l, by rw [hc], h3⟩
end
end Go.Vq
