/- A machine of values and its tie to the model, and runs of it: part 7 of 14 (no law of Go is stated here). -/
import Derived.Test.YtigbpkocmklbpaaF6
import Derived.RangeFuncBox
import Derived.RangeFuncCalls
import Derived.RangeFuncWrites
import Derived.Scope
set_option linter.unusedVariables false
set_option linter.unusedSimpArgs false
set_option linter.unusedSectionVars false
namespace Go.Vq
theorem strip_inv {vo v : VOp} (h : v = vo.strip) : vo = v ∨ (∃ ap f s as, vo = .call ap f s as ∧ v = .call false f s as) ∨ (∃ ap x s as, vo = .callv ap x s as ∧ v = .callv false x s as) ∨ (∃ o n x, vo = .ibox o n x ∧ v = .box o n x) ∨ (∃ mv f s as, vo = .callm mv f s as ∧ v = .call false f s as) ∨ (∃ f s as, vo = .calli f s as ∧ v = .call false f s as) := by
  cases vo <;> first
    | exact .inl h.symm
    | exact .inr (.inl ⟨_, _, _, _, rfl, h⟩)
    | exact .inr (.inr (.inl ⟨_, _, _, _, rfl, h⟩))
    | exact .inr (.inr (.inr (.inl ⟨_, _, _, rfl, h⟩)))
    | exact .inr (.inr (.inr (.inr (.inl ⟨_, _, _, _, rfl, h⟩))))
    | exact .inr (.inr (.inr (.inr (.inr ⟨_, _, _, rfl, h⟩))))
section
variable {P : Program} {n base : Nat} {E E' E2 : Env} {σ σ' : St} {hs : List V} {ts xs : List Value} {H H' H2 : Array Go.Obj}
variable {callee : Callee} {o : Oper} {a : Act} {w : World} {next : Act → World → Prop} {Q : Exit → Act → World → Prop}
theorem strip_plain {vo v : VOp} (h : v = vo.strip) (h1 : ∀ ap f s as, v ≠ .call ap f s as) (h2 : ∀ ap x s as, v ≠ .callv ap x s as) (h3 : ∀ o n x, v ≠ .box o n x := by simp) : vo = v := by
  rcases strip_inv h with h | ⟨_, _, _, _, _, h⟩ | ⟨_, _, _, _, _, h⟩ | ⟨_, _, _, _, h⟩ | ⟨_, _, _, _, _, h⟩ | ⟨_, _, _, _, h⟩
  · exact h
  · exact absurd h (h1 _ _ _ _)
  · exact absurd h (h2 _ _ _ _)
  · exact absurd h (h3 _ _ _)
  · exact absurd h (h1 _ _ _ _)
  · exact absurd h (h1 _ _ _ _)
theorem op_ibox {t : TypeId} {s m : Nat} {x : Operand} {x' : Opd} (ho : o.op = .box t x) (hx : opd P t x = some x') (hC : CoreS n E σ [] a.tmps.toList [] w.heap)
    (hr : (opProg callee base o.dst (.ibox s m x')).run σ = some σ') (K : NextOk n base E σ' a w next) : o.upon P a next Q ((execOp a.eval o).run P w) := by
  change (gImm x' fun v => if v.here = true ∧ v.cells.length = m then putO o.dst (.iptr v.cells) .ret else .fail).run σ = some σ' at hr
  obtain ⟨E1, σ1, v, hC1, hG1, _, hr, hI⟩ := gImm_sound (base := base) hC (opd_ok a hx) hr
  rw [Prog.run_ite] at hr
  split at hr
  · rename_i hv
    obtain ⟨e1, e2, e3⟩ := here_cells (hI.slotRel (s := 0) (slots := []) (objs := []) (vals := [])) hv.1
    have hC2 : CoreS n (E1.setTag w.heap.size .imm) σ1 [] a.tmps.toList [] (w.heap.push (.cells (a.eval x).cells t (0, 0))) := ⟨hC1.sl, hC1.tl, hC1.core.addBlock _ _⟩
    have hG2 := Grow.newBlock (base := base) (τ := .imm) (x := .cells (a.eval x).cells t (0, 0)) hC1.core.fresh
    refine value_end (w1 := { w with heap := w.heap.push (.cells (a.eval x).cells t (0, 0)) }) (hC2.pushLeaf (h := .slot 0 0) (v := .iptr v.cells) (x := .pointer (some ⟨w.heap.size, 0, none⟩)) rfl rfl ⟨_, rfl, rfl, fun j u hj => ?_⟩ (by intro r hr; cases hr)) (hG1.trans hG2) ⟨rfl, rfl, rfl⟩ hr K ?_
    · rw [e1] at hj
      obtain ⟨y, hy⟩ : ∃ y, (a.eval x).cells[j]? = some y := by
        have : j < (a.eval x).cells.size := by rw [e3]; exact lt_of_getElem? hj
        exact ⟨_, Array.getElem?_eq_getElem this⟩
      refine ⟨(inElem_leaf (hI.elem u (List.mem_of_getElem? hj))).1, y, ?_, ?_, ?_⟩
      · simp only [Env.imm, setTag_same]
      · simp only [cellAt, Array.getElem?_push_size, Nat.zero_add]; exact hy
      · refine (hI.cells j u y hj ?_).mono fun b i hi => hG2.imm b i hi
        rw [← e2]; simpa using hy
    · simp [execOp, ho, Instr.box, newVar, newRow]
  · cases hr
theorem op_sound {v0 vo : VOp} {site : Nat} (hcallee : CalleeOk P callee) (hc : cOp P o site = some v0) (hs : v0.strip = vo.strip) (hC : CoreS n E σ [] a.tmps.toList [] w.heap)
    (hr : (opProg callee base o.dst vo).run σ = some σ') (K : NextOk n base E σ' a w next) : o.upon P a next Q ((execOp a.eval o).run P w) := by
  have hp : ∀ {v : VOp}, some v = some v0 → (∀ ap f s as, v ≠ .call ap f s as) → (∀ ap x s as, v ≠ .callv ap x s as) → (h3 : ∀ o n x, v ≠ .box o n x := by simp) → (h4 : ∀ o n x, v ≠ .ibox o n x := by simp) → (h5 : ∀ mv f s as, v ≠ .callm mv f s as := by simp) → (h6 : ∀ f s as, v ≠ .calli f s as := by simp) → vo = v := fun {v} h h1 h2 h3 h4 h5 h6 => by
    have e := Option.some.inj h
    subst e
    have e2 : v.strip = v := by cases v <;> first | rfl | exact absurd rfl (h1 _ _ _ _) | exact absurd rfl (h2 _ _ _ _) | exact absurd rfl (h4 _ _ _) | exact absurd rfl (h5 _ _ _ _) | exact absurd rfl (h6 _ _ _)
    exact strip_plain (e2.symm.trans hs) h1 h2 h3
  cases hop : o.op <;> simp only [cOp, hop, Option.bind_eq_bind, Option.pure_def, reduceCtorEq] at hc
  case move x =>
    obtain ⟨x', hx, hc⟩ := Option.bind_eq_some_iff.1 hc
    cases hp hc (by simp) (by simp)
    exact op_move hop hx hC hr K
  case assign x =>
    obtain ⟨x', hx, hc⟩ := Option.bind_eq_some_iff.1 hc
    cases hp hc (by simp) (by simp)
    exact op_assign hop hx hC hr K
  case pick c x y =>
    obtain ⟨c', hc', hc⟩ := Option.bind_eq_some_iff.1 hc
    obtain ⟨x', hx, hc⟩ := Option.bind_eq_some_iff.1 hc
    obtain ⟨y', hy, hc⟩ := Option.bind_eq_some_iff.1 hc
    cases hp hc (by simp) (by simp)
    exact op_pick hop hc' hx hy hC hr K
  case alloc t =>
    obtain ⟨zs, hz, hc⟩ := Option.bind_eq_some_iff.1 hc
    cases hp hc (by simp) (by simp)
    exact op_alloc hop hz hC hr K
  case box t x =>
    obtain ⟨m, hm, hc⟩ := Option.bind_eq_some_iff.1 hc
    obtain ⟨x', hx, hc⟩ := Option.bind_eq_some_iff.1 hc
    cases hc
    rcases strip_inv (show VOp.box site m x' = vo.strip from hs) with rfl | ⟨_, _, _, _, _, e⟩ | ⟨_, _, _, _, _, e⟩ | ⟨_, _, _, rfl, e⟩ | ⟨_, _, _, _, _, e⟩ | ⟨_, _, _, _, e⟩
    · exact op_box hop hx hC hr K
    · cases e
    · cases e
    · cases e; exact op_ibox hop hx hC hr K
    · cases e
    · cases e
  case build t ps =>
    obtain ⟨zs, hz, hc⟩ := Option.bind_eq_some_iff.1 hc
    obtain ⟨d, hd, hc⟩ := Option.bind_eq_some_iff.1 hc
    split at hc
    · rename_i fs
      obtain ⟨pl, hpl, hc⟩ := Option.bind_eq_some_iff.1 hc
      obtain ⟨parts, hparts, hc⟩ := Option.bind_eq_some_iff.1 hc
      cases hp hc (by simp) (by simp)
      exact op_build hop hz (.inl ⟨fs, pl, hd, hpl, hparts⟩) hC hr K
    · rename_i len e
      obtain ⟨m, hm, hc⟩ := Option.bind_eq_some_iff.1 hc
      obtain ⟨parts, hparts, hc⟩ := Option.bind_eq_some_iff.1 hc
      cases hp hc (by simp) (by simp)
      exact op_build hop hz (.inr ⟨len, e, m, hd, hm, hparts⟩) hC hr K
    · cases hc
  case buildSlice t len ps =>
    obtain ⟨d, hd, hc⟩ := Option.bind_eq_some_iff.1 hc
    split at hc
    · rename_i e
      obtain ⟨sz, hsz, hc⟩ := Option.bind_eq_some_iff.1 hc
      obtain ⟨zs, hz, hc⟩ := Option.bind_eq_some_iff.1 hc
      obtain ⟨agg, hagg, hc⟩ := Option.bind_eq_some_iff.1 hc
      obtain ⟨z0, hz0, hc⟩ := Option.bind_eq_some_iff.1 hc
      split at hc
      · cases hc
      · rename_i hcnd
        simp only [not_or] at hcnd
        obtain ⟨parts, hparts, hc⟩ := Option.bind_eq_some_iff.1 hc
        cases hp hc (by simp) (by simp)
        exact op_buildSlice hop hd hsz hz (Classical.byContradiction fun h => hcnd.2.2 h) hcnd.1 hcnd.2.1 hz0 hparts hC hr K
    · cases hc
  case load t p =>
    obtain ⟨agg, hagg, hc⟩ := Option.bind_eq_some_iff.1 hc
    obtain ⟨m, hm, hc⟩ := Option.bind_eq_some_iff.1 hc
    obtain ⟨p', hp', hc⟩ := Option.bind_eq_some_iff.1 hc
    cases hp hc (by simp) (by simp)
    exact op_load hop hagg hm hp' hC hr K
  case store t p x =>
    split at hc
    · cases hc
    · rename_i hd
      obtain ⟨m, hm, hc⟩ := Option.bind_eq_some_iff.1 hc
      obtain ⟨p', hp', hc⟩ := Option.bind_eq_some_iff.1 hc
      obtain ⟨x', hx', hc⟩ := Option.bind_eq_some_iff.1 hc
      cases hp hc (by simp) (by simp)
      exact op_store hop hm hp' hx' (by cases h : o.dst <;> simp [h] at hd ⊢) hC hr K
  case nilCheck x =>
    obtain ⟨x', hx, hc⟩ := Option.bind_eq_some_iff.1 hc
    cases hp hc (by simp) (by simp)
    exact op_nilCheck hop hx hC hr K
  case binOp op t x y t' =>
    have hbin : ∀ {x' y' : Opd}, op ≠ .eql ∧ op ≠ .neq → opd0 x = some x' → opd0 y = some y' → vo = .bin op x' y' → o.upon P a next Q ((execOp a.eval o).run P w) := by
      intro x' y' h1 h2 h3 h4
      subst h4
      exact op_bin hop h1 h2 h3 hC hr K
    split at hc
    · obtain ⟨k, hk, hc⟩ := Option.bind_eq_some_iff.1 hc
      obtain ⟨x', hx, hc⟩ := Option.bind_eq_some_iff.1 hc
      obtain ⟨y', hy, hc⟩ := Option.bind_eq_some_iff.1 hc
      cases hp hc (by simp) (by simp)
      exact op_eq (neg := false) hop hk hx hy hC hr K
    · obtain ⟨k, hk, hc⟩ := Option.bind_eq_some_iff.1 hc
      obtain ⟨x', hx, hc⟩ := Option.bind_eq_some_iff.1 hc
      obtain ⟨y', hy, hc⟩ := Option.bind_eq_some_iff.1 hc
      cases hp hc (by simp) (by simp)
      exact op_eq (neg := true) hop hk hx hy hC hr K
    · rename_i h1 h2
      obtain ⟨x', hx, hc⟩ := Option.bind_eq_some_iff.1 hc
      obtain ⟨y', hy, hc⟩ := Option.bind_eq_some_iff.1 hc
      exact hbin ⟨fun e => h1 e, fun e => h2 e⟩ hx hy (hp hc (by simp) (by simp))
  case unOp op t x =>
    obtain ⟨x', hx, hc⟩ := Option.bind_eq_some_iff.1 hc
    cases hp hc (by simp) (by simp)
    exact op_un hop hx hC hr K
  case convert s d x =>
    obtain ⟨ds, hds, hc⟩ := Option.bind_eq_some_iff.1 hc
    obtain ⟨dd, hdd, hc⟩ := Option.bind_eq_some_iff.1 hc
    split at hc
    · obtain ⟨x', hx, hc⟩ := Option.bind_eq_some_iff.1 hc
      cases hp hc (by simp) (by simp)
      exact op_convInt hop hds hdd hx hC hr K
    · obtain ⟨x', hx, hc⟩ := Option.bind_eq_some_iff.1 hc
      cases hp hc (by simp) (by simp)
      exact op_convSame hop hds hdd hx hC hr K
    · obtain ⟨x', hx, hc⟩ := Option.bind_eq_some_iff.1 hc
      cases hp hc (by simp) (by simp)
      exact op_convRune hop hds hdd hx hC hr K
    · obtain ⟨de, hde, hc⟩ := Option.bind_eq_some_iff.1 hc
      split at hc
      · obtain ⟨x', hx, hc⟩ := Option.bind_eq_some_iff.1 hc
        cases hp hc (by simp) (by simp)
        exact op_convBytes hop hds hdd hde hx hC hr K
      · cases hc
    · obtain ⟨de, hde, hc⟩ := Option.bind_eq_some_iff.1 hc
      split at hc
      · obtain ⟨x', hx, hc⟩ := Option.bind_eq_some_iff.1 hc
        cases hp hc (by simp) (by simp)
        exact op_convText hop hds hdd hde hx hC hr K
      · cases hc
    · obtain ⟨de, hde, hc⟩ := Option.bind_eq_some_iff.1 hc
      split at hc
      · split at hc
        · rename_i htt
          obtain ⟨x', hx, hc⟩ := Option.bind_eq_some_iff.1 hc
          cases hp hc (by simp) (by simp)
          exact op_convLit hop hds hdd hde htt hx hC hr K
        · cases hc
      · cases hc
    · cases hc
  case makeInterface t x =>
    obtain ⟨d, hd, hc⟩ := Option.bind_eq_some_iff.1 hc
    split at hc
    · cases hc
    · rename_i hni
      obtain ⟨x', hx, hc⟩ := Option.bind_eq_some_iff.1 hc
      cases hp hc (by simp) (by simp)
      exact op_iface hop ⟨d, hd, fun ms e => hni ms e⟩ hx hC hr K
  case makeFunc fn first caps =>
    cases fn <;> simp only [reduceCtorEq] at hc
    rename_i f
    split at hc
    · rename_i hf
      obtain ⟨cs, hcs, hc⟩ := Option.bind_eq_some_iff.1 hc
      cases hp hc (by simp) (by simp)
      exact op_makeFunc hop (by simpa using hf) hcs hC hr K
    · cases hc
  case makeSlice t l c =>
    obtain ⟨d, hd, hc⟩ := Option.bind_eq_some_iff.1 hc
    split at hc
    · rename_i e
      obtain ⟨sz, hsz, hc⟩ := Option.bind_eq_some_iff.1 hc
      obtain ⟨zs, hz, hc⟩ := Option.bind_eq_some_iff.1 hc
      split at hc
      · cases hc
      · rename_i hcnd
        simp only [not_or] at hcnd
        obtain ⟨bytes, hb, hc⟩ := Option.bind_eq_some_iff.1 hc
        obtain ⟨agg, hagg, hc⟩ := Option.bind_eq_some_iff.1 hc
        obtain ⟨z0, hz0, hc⟩ := Option.bind_eq_some_iff.1 hc
        obtain ⟨l', hl', hc⟩ := Option.bind_eq_some_iff.1 hc
        obtain ⟨c', hc', hc⟩ := Option.bind_eq_some_iff.1 hc
        cases hp hc (by simp) (by simp)
        exact op_makeSlice hop hd hsz hb hz (Classical.byContradiction fun h => hcnd.2 h) hcnd.1 hz0 hl' hc' hC hr K
    · cases hc
  case slice t x lo hi mx =>
    obtain ⟨d, hd, hc⟩ := Option.bind_eq_some_iff.1 hc
    split at hc
    · rename_i len e
      obtain ⟨m, hm, hc⟩ := Option.bind_eq_some_iff.1 hc
      split at hc
      · rename_i hcnd
        obtain ⟨x', hx, hc⟩ := Option.bind_eq_some_iff.1 hc
        obtain ⟨lo', hlo, hc⟩ := Option.bind_eq_some_iff.1 hc
        obtain ⟨hi', hhi, hc⟩ := Option.bind_eq_some_iff.1 hc
        cases hp hc (by simp) (by simp)
        obtain ⟨rfl, hmx⟩ := hcnd
        have : mx = none := by cases mx <;> simp at hmx ⊢
        subst this
        exact op_sliceArr hop hd hm hx hlo hhi hC hr K
      · cases hc
    · rename_i e
      split at hc
      · cases hc
      · rename_i hcnd
        obtain ⟨sz, hsz, hc⟩ := Option.bind_eq_some_iff.1 hc
        obtain ⟨x', hx, hc⟩ := Option.bind_eq_some_iff.1 hc
        obtain ⟨lo', hlo, hc⟩ := Option.bind_eq_some_iff.1 hc
        obtain ⟨hi', hhi, hc⟩ := Option.bind_eq_some_iff.1 hc
        obtain ⟨mx', hmx, hc⟩ := Option.bind_eq_some_iff.1 hc
        cases hp hc (by simp) (by simp)
        exact op_sliceSlc hop hd hsz hx hlo hhi hmx (fun h => by subst h; cases mx <;> simp at hcnd ⊢) hC hr K
    · split at hc
      · cases hc
      · rename_i hcnd
        obtain ⟨x', hx, hc⟩ := Option.bind_eq_some_iff.1 hc
        obtain ⟨lo', hlo, hc⟩ := Option.bind_eq_some_iff.1 hc
        obtain ⟨hi', hhi, hc⟩ := Option.bind_eq_some_iff.1 hc
        cases hp hc (by simp) (by simp)
        have : mx = none := by cases mx <;> simp at hcnd ⊢
        subst this
        exact op_sliceStr hop hd hx hlo hhi hC hr K
    · cases hc
  case fieldAddr t x i =>
    obtain ⟨d, hd, hc⟩ := Option.bind_eq_some_iff.1 hc
    split at hc
    · rename_i fs
      obtain ⟨f, hf, hc⟩ := Option.bind_eq_some_iff.1 hc
      obtain ⟨m, hm, hc⟩ := Option.bind_eq_some_iff.1 hc
      split at hc
      · cases hc
      · rename_i hm0
        obtain ⟨x', hx, hc⟩ := Option.bind_eq_some_iff.1 hc
        cases hp hc (by simp) (by simp)
        exact op_fieldAddr hop hd hf hm hm0 hx hC hr K
    · cases hc
  case field t x i =>
    obtain ⟨d, hd, hc⟩ := Option.bind_eq_some_iff.1 hc
    split at hc
    · rename_i fs
      obtain ⟨f, hf, hc⟩ := Option.bind_eq_some_iff.1 hc
      obtain ⟨m, hm, hc⟩ := Option.bind_eq_some_iff.1 hc
      obtain ⟨agg, hagg, hc⟩ := Option.bind_eq_some_iff.1 hc
      obtain ⟨x', hx, hc⟩ := Option.bind_eq_some_iff.1 hc
      cases hp hc (by simp) (by simp)
      exact op_field hop hd hf hm hagg hx hC hr K
    · cases hc
  case indexAddr t x i =>
    obtain ⟨d, hd, hc⟩ := Option.bind_eq_some_iff.1 hc
    split at hc
    · rename_i len e
      obtain ⟨m, hm, hc⟩ := Option.bind_eq_some_iff.1 hc
      obtain ⟨x', hx, hc⟩ := Option.bind_eq_some_iff.1 hc
      obtain ⟨i', hi, hc⟩ := Option.bind_eq_some_iff.1 hc
      cases hp hc (by simp) (by simp)
      exact op_indexAddrArr hop hd hm hx hi hC hr K
    · rename_i e
      obtain ⟨m, hm, hc⟩ := Option.bind_eq_some_iff.1 hc
      split at hc
      · cases hc
      · obtain ⟨m2, hm2, hc⟩ := Option.bind_eq_some_iff.1 hc
        obtain ⟨x', hx, hc⟩ := Option.bind_eq_some_iff.1 hc
        obtain ⟨i', hi, hc⟩ := Option.bind_eq_some_iff.1 hc
        cases hp hc (by simp) (by simp)
        exact op_indexAddr hop hd hm2 hx hi hC hr K
    · cases hc
  case index t x i =>
    obtain ⟨d, hd, hc⟩ := Option.bind_eq_some_iff.1 hc
    split at hc
    · rename_i len e
      obtain ⟨m, hm, hc⟩ := Option.bind_eq_some_iff.1 hc
      obtain ⟨agg, hagg, hc⟩ := Option.bind_eq_some_iff.1 hc
      obtain ⟨x', hx, hc⟩ := Option.bind_eq_some_iff.1 hc
      obtain ⟨i', hi, hc⟩ := Option.bind_eq_some_iff.1 hc
      cases hp hc (by simp) (by simp)
      exact op_indexArr hop hd hm hagg hx hi hC hr K
    · obtain ⟨x', hx, hc⟩ := Option.bind_eq_some_iff.1 hc
      obtain ⟨i', hi, hc⟩ := Option.bind_eq_some_iff.1 hc
      cases hp hc (by simp) (by simp)
      exact op_indexStr hop hd hx hi hC hr K
    · cases hc
  case extract x i =>
    obtain ⟨x', hx, hc⟩ := Option.bind_eq_some_iff.1 hc
    cases hp hc (by simp) (by simp)
    exact op_extract hop hx hC hr K
  case call c =>
    obtain ⟨cl, args, argTypes⟩ := c
    cases cl with
    | invoke recv name => simp only [reduceCtorEq] at hc
    | value x =>
      by_cases hx : ∃ f, x = .func f
      · obtain ⟨f, rfl⟩ := hx
        simp only [Option.bind_eq_bind, Option.pure_def] at hc
        obtain ⟨as, has, hc⟩ := Option.bind_eq_some_iff.1 hc
        cases hc
        rcases strip_inv (show VOp.call false f site as = vo.strip from hs) with rfl | ⟨ap, f', s', as', rfl, e⟩ | ⟨_, _, _, _, _, e⟩ | ⟨_, _, _, _, e⟩ | ⟨mv, f', s', as', rfl, e⟩ | ⟨f', s', as', rfl, e⟩
        · exact op_call hcallee hop rfl has hC hr K
        · cases e; exact op_call hcallee hop rfl has hC hr K
        · cases e
        · cases e
        · cases e; exact op_callm hcallee hop rfl has hC hr K
        · cases e; exact op_calli hcallee hop rfl has hC hr K
      · have hc' : (do pure (.callv false (← opd0 x) site (← (args.toList.zip (argTypes.toList ++ List.replicate args.size 0)).mapM fun (x, t) => opd P t x)) : Option VOp) = some v0 := by
          cases x <;> first | exact absurd ⟨_, rfl⟩ hx | exact hc
        simp only [Option.bind_eq_bind, Option.pure_def] at hc'
        obtain ⟨x', hx', hc'⟩ := Option.bind_eq_some_iff.1 hc'
        obtain ⟨as, has, hc'⟩ := Option.bind_eq_some_iff.1 hc'
        cases hc'
        rcases strip_inv (show VOp.callv false x' site as = vo.strip from hs) with rfl | ⟨_, _, _, _, _, e⟩ | ⟨ap, y', s', as', rfl, e⟩ | ⟨_, _, _, _, e⟩ | ⟨_, _, _, _, _, e⟩ | ⟨_, _, _, _, e⟩
        · exact op_callv hcallee hop rfl hx' has hC hr K
        · cases e
        · cases e; exact op_callv hcallee hop rfl hx' has hC hr K
        · cases e
        · cases e
        · cases e
    | builtin b =>
      simp only [Option.bind_eq_bind, Option.pure_def] at hc
      have hargs : ∀ l, args.toList = l → args = l.toArray := fun l h => by rw [← h]
      have htys : ∀ l, argTypes.toList = l → argTypes = l.toArray := fun l h => by rw [← h]
      split at hc
      · rename_i x t hx ht
        obtain ⟨d, hd, hc⟩ := Option.bind_eq_some_iff.1 hc
        split at hc
        · rename_i m e
          cases hp hc (by simp) (by simp)
          exact op_lenArr hop rfl (hargs _ hx) (htys _ ht) (.inl ⟨e, hd⟩) hC hr K
        · rename_i p
          obtain ⟨d2, hd2, hc⟩ := Option.bind_eq_some_iff.1 hc
          split at hc
          · rename_i m e
            cases hp hc (by simp) (by simp)
            exact op_lenArr hop rfl (hargs _ hx) (htys _ ht) (.inr ⟨p, e, hd, hd2⟩) hC hr K
          · cases hc
        · obtain ⟨x', hx', hc⟩ := Option.bind_eq_some_iff.1 hc
          cases hp hc (by simp) (by simp)
          exact op_len hop rfl (hargs _ hx) (htys _ ht) (.inl ⟨rfl, hd⟩) hx' hC hr K
        · rename_i e
          obtain ⟨sz, hsz, hc⟩ := Option.bind_eq_some_iff.1 hc
          obtain ⟨x', hx', hc⟩ := Option.bind_eq_some_iff.1 hc
          cases hp hc (by simp) (by simp)
          exact op_len hop rfl (hargs _ hx) (htys _ ht) (.inr (.inl ⟨sz, e, rfl, hd⟩)) hx' hC hr K
        · rename_i k e
          obtain ⟨x', hx', hc⟩ := Option.bind_eq_some_iff.1 hc
          cases hp hc (by simp) (by simp)
          exact op_len hop rfl (hargs _ hx) (htys _ ht) (.inr (.inr ⟨k, e, rfl, hd⟩)) hx' hC hr K
        · cases hc
      · rename_i x t hx ht
        obtain ⟨d, hd, hc⟩ := Option.bind_eq_some_iff.1 hc
        split at hc
        · rename_i e
          obtain ⟨x', hx', hc⟩ := Option.bind_eq_some_iff.1 hc
          cases hp hc (by simp) (by simp)
          exact op_cap hop rfl (hargs _ hx) (htys _ ht) hd hx' hC hr K
        · cases hc
      · rename_i s x t u hx ht
        obtain ⟨d, hd, hc⟩ := Option.bind_eq_some_iff.1 hc
        obtain ⟨d2, hd2, hc⟩ := Option.bind_eq_some_iff.1 hc
        split at hc
        · rename_i ki
          split at hc
          · rename_i e
            obtain ⟨sz, hsz, hc⟩ := Option.bind_eq_some_iff.1 hc
            obtain ⟨bytes, hb, hc⟩ := Option.bind_eq_some_iff.1 hc
            obtain ⟨zs, hz, hc⟩ := Option.bind_eq_some_iff.1 hc
            obtain ⟨agg, hag, hc⟩ := Option.bind_eq_some_iff.1 hc
            obtain ⟨zero, hze, hc⟩ := Option.bind_eq_some_iff.1 hc
            split at hc
            · cases hc
            · rename_i hcnd
              simp only [not_or] at hcnd
              obtain ⟨s', hs', hc⟩ := Option.bind_eq_some_iff.1 hc
              obtain ⟨x', hx', hc⟩ := Option.bind_eq_some_iff.1 hc
              cases hp hc (by simp) (by simp)
              exact op_appendZ hop rfl (hargs _ hx) (htys _ ht) hd hd2 hsz hb hz (Classical.byContradiction fun h => hcnd.2.2 h) hcnd.1 hcnd.2.1 hze hs' hx' hC hr K
          · cases hc
        · rename_i e hni
          obtain ⟨sz, hsz, hc⟩ := Option.bind_eq_some_iff.1 hc
          obtain ⟨bytes, hb, hc⟩ := Option.bind_eq_some_iff.1 hc
          obtain ⟨zs, hz, hc⟩ := Option.bind_eq_some_iff.1 hc
          split at hc
          · cases hc
          · rename_i hcnd
            simp only [not_or] at hcnd
            obtain ⟨s', hs', hc⟩ := Option.bind_eq_some_iff.1 hc
            obtain ⟨x', hx', hc⟩ := Option.bind_eq_some_iff.1 hc
            cases hp hc (by simp) (by simp)
            exact op_append hop rfl (hargs _ hx) (htys _ ht) ⟨hd, ⟨d2, hd2, fun k e => by subst e; exact hni _ rfl⟩, hsz, hb, ⟨zs, hz, Classical.byContradiction fun h => hcnd.2.2 h⟩, hcnd.1, hcnd.2.1⟩ hs' hx' hC hr K
        · cases hc
      · rename_i d0 s t u hx ht
        obtain ⟨d, hd, hc⟩ := Option.bind_eq_some_iff.1 hc
        split at hc
        · rename_i e
          obtain ⟨sz, hsz, hc⟩ := Option.bind_eq_some_iff.1 hc
          split at hc
          · cases hc
          · obtain ⟨d', hd', hc⟩ := Option.bind_eq_some_iff.1 hc
            obtain ⟨s', hs', hc⟩ := Option.bind_eq_some_iff.1 hc
            cases hp hc (by simp) (by simp)
            exact op_copy hop rfl (hargs _ hx) (htys _ ht) hd hsz hd' hs' hC hr K
        · cases hc
      · obtain ⟨os, hos, hc⟩ := Option.bind_eq_some_iff.1 hc
        cases hp hc (by simp) (by simp)
        exact op_max hop rfl hos hC hr K
      · obtain ⟨os, hos, hc⟩ := Option.bind_eq_some_iff.1 hc
        cases hp hc (by simp) (by simp)
        exact op_min hop rfl hos hC hr K
      · cases hc
end
end Go.Vq
namespace Go.Vq
theorem setS_slot {σ : St} {s s' : Nat} {v : V} (h : s' ≠ s) : (σ.setS s v).slot s' = σ.slot s' := by
  simp only [St.setS, St.slot, List.getD_eq_getElem?_getD, List.getElem?_set_ne (fun e => h e.symm)]
theorem setS_obj {σ : St} {s o : Nat} {v : V} : (σ.setS s v).obj o = σ.obj o := rfl
theorem setO_slot {σ : St} {s o : Nat} {x : Option Obj} : (σ.setO o x).slot s = σ.slot s := rfl
theorem setO_obj {σ : St} {o o' : Nat} {x : Option Obj} (h : o' ≠ o) : (σ.setO o x).obj o' = σ.obj o' := by
  simp only [St.setO, St.obj, List.getD_eq_getElem?_getD, List.getElem?_set_ne (fun e => h e.symm)]
theorem setS_setS {σ : St} {s s' : Nat} {v v' : V} (h : s ≠ s') : (σ.setS s v).setS s' v' = (σ.setS s' v').setS s v := by
  simp only [St.setS, List.set_comm _ _ h]
theorem setO_setO {σ : St} {o o' : Nat} {x x' : Option Obj} (h : o ≠ o') : (σ.setO o x).setO o' x' = (σ.setO o' x').setO o x := by
  simp only [St.setO, List.set_comm _ _ h]
theorem setS_setO {σ : St} {s o : Nat} {v : V} {x : Option Obj} : (σ.setS s v).setO o x = (σ.setO o x).setS s v := rfl
theorem setO_len {σ : St} {o : Nat} {x : Option Obj} : (σ.setO o x).objs.length = σ.objs.length := by simp [St.setO]
theorem run_len : ∀ {p : Prog} {σ τ : St}, p.run σ = some τ → τ.objs.length = σ.objs.length
  | .fail, _, _, h => by cases h
  | .ret, _, _, h => by cases h; rfl
  | .getS s k, σ, τ, h => run_len (p := k (σ.slot s)) h
  | .setS s v k, σ, τ, h => by have := run_len (p := k) (σ := σ.setS s v) h; exact this
  | .getO o k, σ, τ, h => run_len (p := k (σ.obj o)) h
  | .setO o x k, σ, τ, h => by
    simp only [Prog.run] at h
    split at h
    · have := run_len (p := k) h; rw [this, setO_len]
    · cases h
theorem run_slot : ∀ {p : Prog} {σ τ : St} {s : Nat}, p.run σ = some τ → Loc.slot s ∉ (p.foot σ).2 → τ.slot s = σ.slot s
  | .fail, _, _, _, h, _ => by cases h
  | .ret, _, _, _, h, _ => by cases h; rfl
  | .getS t k, σ, τ, s, h, hn => run_slot (p := k (σ.slot t)) h hn
  | .setS t v k, σ, τ, s, h, hn => by
    simp only [Prog.foot, List.mem_cons, Loc.slot.injEq, not_or] at hn
    rw [run_slot (p := k) (σ := σ.setS t v) h hn.2, setS_slot hn.1]
  | .getO o k, σ, τ, s, h, hn => run_slot (p := k (σ.obj o)) h hn
  | .setO o x k, σ, τ, s, h, hn => by
    simp only [Prog.foot, List.mem_cons, reduceCtorEq, false_or] at hn
    simp only [Prog.run] at h
    split at h
    · rw [run_slot (p := k) h hn]; rfl
    · cases h
theorem run_obj : ∀ {p : Prog} {σ τ : St} {o : Nat}, p.run σ = some τ → Loc.obj o ∉ (p.foot σ).2 → τ.obj o = σ.obj o
  | .fail, _, _, _, h, _ => by cases h
  | .ret, _, _, _, h, _ => by cases h; rfl
  | .getS t k, σ, τ, s, h, hn => run_obj (p := k (σ.slot t)) h hn
  | .setS t v k, σ, τ, s, h, hn => by
    simp only [Prog.foot, List.mem_cons, reduceCtorEq, false_or] at hn
    rw [run_obj (p := k) (σ := σ.setS t v) h hn]; rfl
  | .getO o k, σ, τ, s, h, hn => run_obj (p := k (σ.obj o)) h hn
  | .setO o x k, σ, τ, s, h, hn => by
    simp only [Prog.foot, List.mem_cons, Loc.obj.injEq, not_or] at hn
    simp only [Prog.run] at h
    split at h
    · rw [run_obj (p := k) h hn.2, setO_obj hn.1]
    · cases h
theorem past_setS : ∀ {p : Prog} {σ τ : St} {s : Nat} {v : V}, p.run (σ.setS s v) = some τ → Loc.slot s ∉ (p.foot (σ.setS s v)).1 → Loc.slot s ∉ (p.foot (σ.setS s v)).2 →
    ∃ τ', p.run σ = some τ' ∧ τ = τ'.setS s v ∧ p.foot σ = p.foot (σ.setS s v)
  | .fail, _, _, _, _, h, _, _ => by cases h
  | .ret, σ, _, _, _, h, _, _ => by cases h; exact ⟨σ, rfl, rfl, rfl⟩
  | .getS t k, σ, τ, s, v, h, h1, h2 => by
    simp only [Prog.foot, List.mem_cons, Loc.slot.injEq, not_or] at h1
    have e := setS_slot (σ := σ) (v := v) (fun e => h1.1 e.symm : t ≠ s)
    simp only [Prog.run, Prog.foot] at h h1 h2 ⊢
    rw [e] at h h1 h2 ⊢
    obtain ⟨τ', g1, g2, g3⟩ := past_setS h h1.2 h2
    exact ⟨τ', g1, g2, by rw [g3]⟩
  | .setS t u k, σ, τ, s, v, h, h1, h2 => by
    simp only [Prog.foot, List.mem_cons, Loc.slot.injEq, not_or] at h2
    simp only [Prog.run, Prog.foot] at h h1 h2 ⊢
    rw [setS_setS h2.1] at h h1 h2 ⊢
    obtain ⟨τ', g1, g2, g3⟩ := past_setS h h1 h2.2
    exact ⟨τ', g1, g2, by rw [g3]⟩
  | .getO o k, σ, τ, s, v, h, h1, h2 => by
    simp only [Prog.foot, List.mem_cons, reduceCtorEq, false_or] at h1
    simp only [Prog.run, Prog.foot, setS_obj] at h h1 h2 ⊢
    obtain ⟨τ', g1, g2, g3⟩ := past_setS h h1 h2
    exact ⟨τ', g1, g2, by rw [g3]⟩
  | .setO o x k, σ, τ, s, v, h, h1, h2 => by
    simp only [Prog.foot, List.mem_cons, reduceCtorEq, false_or] at h2
    simp only [Prog.run, Prog.foot] at h h1 h2 ⊢
    split at h
    · rename_i hlt
      rw [setS_setO] at h h1 h2 ⊢
      obtain ⟨τ', g1, g2, g3⟩ := past_setS h h1 h2
      exact ⟨τ', by rw [if_pos (show o < σ.objs.length from hlt)]; exact g1, g2, by rw [g3]⟩
    · cases h
theorem past_setO : ∀ {p : Prog} {σ τ : St} {o : Nat} {x : Option Obj}, p.run (σ.setO o x) = some τ → Loc.obj o ∉ (p.foot (σ.setO o x)).1 → Loc.obj o ∉ (p.foot (σ.setO o x)).2 →
    ∃ τ', p.run σ = some τ' ∧ τ = τ'.setO o x ∧ p.foot σ = p.foot (σ.setO o x)
  | .fail, _, _, _, _, h, _, _ => by cases h
  | .ret, σ, _, _, _, h, _, _ => by cases h; exact ⟨σ, rfl, rfl, rfl⟩
  | .getS t k, σ, τ, o, x, h, h1, h2 => by
    simp only [Prog.foot, List.mem_cons, reduceCtorEq, false_or] at h1
    simp only [Prog.run, Prog.foot, setO_slot] at h h1 h2 ⊢
    obtain ⟨τ', g1, g2, g3⟩ := past_setO h h1 h2
    exact ⟨τ', g1, g2, by rw [g3]⟩
  | .setS t u k, σ, τ, o, x, h, h1, h2 => by
    simp only [Prog.foot, List.mem_cons, reduceCtorEq, false_or] at h2
    simp only [Prog.run, Prog.foot] at h h1 h2 ⊢
    rw [← setS_setO] at h h1 h2 ⊢
    obtain ⟨τ', g1, g2, g3⟩ := past_setO h h1 h2
    exact ⟨τ', g1, g2, by rw [g3]⟩
  | .getO o' k, σ, τ, o, x, h, h1, h2 => by
    simp only [Prog.foot, List.mem_cons, Loc.obj.injEq, not_or] at h1
    have e := setO_obj (σ := σ) (x := x) (fun e => h1.1 e.symm : o' ≠ o)
    simp only [Prog.run, Prog.foot] at h h1 h2 ⊢
    rw [e] at h h1 h2 ⊢
    obtain ⟨τ', g1, g2, g3⟩ := past_setO h h1.2 h2
    exact ⟨τ', g1, g2, by rw [g3]⟩
  | .setO o' y k, σ, τ, o, x, h, h1, h2 => by
    simp only [Prog.foot, List.mem_cons, Loc.obj.injEq, not_or] at h2
    simp only [Prog.run, Prog.foot, setO_len] at h h1 h2 ⊢
    split at h
    · rename_i hlt
      rw [setO_setO h2.1] at h h1 h2 ⊢
      obtain ⟨τ', g1, g2, g3⟩ := past_setO h h1 h2.2
      exact ⟨τ', by rw [if_pos hlt]; exact g1, g2, by rw [g3]⟩
    · cases h
def Apart (a b : List Loc × List Loc) : Prop := (∀ l ∈ a.2, l ∉ b.1 ∧ l ∉ b.2) ∧ ∀ l ∈ b.2, l ∉ a.1
theorem commute : ∀ {q p : Prog} {σ σ1 σ2 : St}, q.run σ = some σ1 → p.run σ1 = some σ2 → Apart (q.foot σ) (p.foot σ1) → ∃ τ, p.run σ = some τ ∧ q.run τ = some σ2 ∧ p.foot σ = p.foot σ1 ∧ q.foot τ = q.foot σ
  | .fail, _, _, _, _, h, _, _ => by cases h
  | .ret, p, σ, σ1, σ2, h, h', _ => by cases h; exact ⟨σ2, h', rfl, rfl, rfl⟩
  | .getS s k, p, σ, σ1, σ2, h, h', ha => by
    simp only [Prog.run] at h
    simp only [Prog.foot, Apart] at ha
    obtain ⟨τ, g1, g2, g3, g4⟩ := commute h h' ⟨ha.1, fun l hl hm => ha.2 l hl (List.mem_cons_of_mem _ hm)⟩
    have e : τ.slot s = σ.slot s := run_slot g1 (by rw [g3]; exact fun hm => ha.2 _ hm (List.mem_cons_self ..))
    exact ⟨τ, g1, by simp only [Prog.run, e]; exact g2, g3, by simp only [Prog.foot, e, g4]⟩
  | .getO o k, p, σ, σ1, σ2, h, h', ha => by
    simp only [Prog.run] at h
    simp only [Prog.foot, Apart] at ha
    obtain ⟨τ, g1, g2, g3, g4⟩ := commute h h' ⟨ha.1, fun l hl hm => ha.2 l hl (List.mem_cons_of_mem _ hm)⟩
    have e : τ.obj o = σ.obj o := run_obj g1 (by rw [g3]; exact fun hm => ha.2 _ hm (List.mem_cons_self ..))
    exact ⟨τ, g1, by simp only [Prog.run, e]; exact g2, g3, by simp only [Prog.foot, e, g4]⟩
  | .setS s v k, p, σ, σ1, σ2, h, h', ha => by
    simp only [Prog.run] at h
    simp only [Prog.foot, Apart] at ha
    obtain ⟨τ', g1, g2, g3, g4⟩ := commute (q := k) h h' ⟨fun l hl => ha.1 l (List.mem_cons_of_mem _ hl), ha.2⟩
    have hw := ha.1 _ (List.mem_cons_self ..)
    rw [← g3] at hw
    obtain ⟨τ, k1, rfl, k3⟩ := past_setS g1 hw.1 hw.2
    exact ⟨τ, k1, g2, k3.trans g3, by simp only [Prog.foot, g4]⟩
  | .setO o x k, p, σ, σ1, σ2, h, h', ha => by
    simp only [Prog.run] at h
    split at h
    · rename_i hlt
      simp only [Prog.foot, Apart] at ha
      obtain ⟨τ', g1, g2, g3, g4⟩ := commute (q := k) h h' ⟨fun l hl => ha.1 l (List.mem_cons_of_mem _ hl), ha.2⟩
      have hw := ha.1 _ (List.mem_cons_self ..)
      rw [← g3] at hw
      obtain ⟨τ, k1, rfl, k3⟩ := past_setO g1 hw.1 hw.2
      refine ⟨τ, k1, ?_, k3.trans g3, by simp only [Prog.foot, g4]⟩
      simp only [Prog.run]
      rw [if_pos (by rw [run_len k1]; exact hlt)]; exact g2
    · cases h
theorem clash_apart {a b : List Loc × List Loc} (h : clash a b = false) : Apart a b := by
  simp only [clash, Bool.or_eq_false_iff, List.any_eq_false, List.contains_iff_mem, Bool.or_eq_true, not_or] at h
  exact ⟨fun l hl => h.1 l hl, fun l hl => h.2 l hl⟩
section
variable {callee : Callee} {base : Nat}
def RunF (callee : Callee) (base : Nat) : List VOper → List (List Loc × List Loc) → St → St → Prop
  | [], [], σ, σ' => σ = σ'
  | o :: os, f :: fs, σ, σ' => ∃ σ1, (o.prog callee base).run σ = some σ1 ∧ (o.prog callee base).foot σ = f ∧ RunF callee base os fs σ1 σ'
  | _, _, _, _ => False
theorem RunF.len : ∀ {os : List VOper} {fs : List (List Loc × List Loc)} {σ σ' : St}, RunF callee base os fs σ σ' → fs.length = os.length
  | [], [], _, _, _ => rfl
  | [], _ :: _, _, _, h => h.elim
  | _ :: _, [], _, _, h => h.elim
  | o :: os, f :: fs, σ, σ', ⟨σ1, _, _, h⟩ => by simp [h.len]
theorem RunF.pull : ∀ {R1 : List VOper} {F1 : List (List Loc × List Loc)} {o : VOper} {f : List Loc × List Loc} {R2 : List VOper} {F2 : List (List Loc × List Loc)} {σ σ' : St}, F1.length = R1.length → RunF callee base (R1 ++ o :: R2) (F1 ++ f :: F2) σ σ' → (∀ g ∈ F1, clash g f = false) →
    ∃ σ1, (o.prog callee base).run σ = some σ1 ∧ (o.prog callee base).foot σ = f ∧ RunF callee base (R1 ++ R2) (F1 ++ F2) σ1 σ'
  | [], [], o, f, R2, F2, σ, σ', _, h, _ => h
  | [], _ :: _, _, _, _, _, _, _, h, _, _ => by simp at h
  | _ :: _, [], _, _, _, _, _, _, h, _, _ => by simp at h
  | q :: R1, g :: F1, o, f, R2, F2, σ, σ', hl, ⟨σ1, h1, h2, h3⟩, hc => by
    obtain ⟨σ2, g1, g2, g3⟩ := RunF.pull (by simpa using hl) h3 (fun g' hg => hc g' (List.mem_cons_of_mem _ hg))
    have ha := clash_apart (hc g (List.mem_cons_self ..))
    rw [← h2, ← g2] at ha
    obtain ⟨τ, k1, k2, k3, k4⟩ := commute h1 g1 ha
    exact ⟨τ, k1, k3.trans g2, σ2, k2, k4.trans h2, g3⟩
theorem clashes_get : ∀ {fs : List (List Loc × List Loc)} {before i : Nat} {f : List Loc × List Loc}, clashes before f i fs = false → ∀ (k : Nat) (g : List Loc × List Loc), fs[k]? = some g → before.testBit (i + k) = true ∨ clash g f = false
  | [], _, _, _, _, k, g, h => by simp at h
  | g0 :: fs, before, i, f, hc, k, g, h => by
    simp only [clashes, Bool.or_eq_false_iff, Bool.and_eq_false_iff, Bool.not_eq_false'] at hc
    cases k with
    | zero => simp at h; subst h; exact hc.1
    | succ k =>
      have := clashes_get hc.2 k g (by simpa using h)
      rw [show i + 1 + k = i + (k + 1) by omega] at this
      exact this
theorem runDraw_sound : ∀ {os : List VOper} {done : List (List Loc × List Loc)} {σ σ' : St}, runDraw callee base os done σ = some σ' →
    ∃ fs, RunF callee base os fs σ σ' ∧ ∀ (l : Nat) (o : VOper) (f : List Loc × List Loc), os[l]? = some o → fs[l]? = some f → ∀ (k : Nat) (g : List Loc × List Loc), k < done.length + l → (done ++ fs)[k]? = some g → o.before.testBit k = true ∨ clash g f = false
  | [], done, σ, σ', h => by
    simp only [runDraw, Option.some.injEq] at h
    exact ⟨[], h, fun l o f h => by simp at h⟩
  | o :: os, done, σ, σ', h => by
    simp only [runDraw] at h
    split at h
    · cases h
    · rename_i hc
      split at h
      · rename_i σ1 h1
        obtain ⟨fs, g1, g2⟩ := runDraw_sound h
        refine ⟨_ :: fs, ⟨σ1, h1, rfl, g1⟩, fun l o' f ho hf k g hk hg => ?_⟩
        cases l with
        | zero =>
          simp at ho hf; subst ho hf
          have := clashes_get (by simpa using hc) k g (by rw [List.getElem?_append_left (by omega)] at hg; exact hg)
          simpa using this
        | succ l =>
          refine g2 l o' f (by simpa using ho) (by simpa using hf) k g (by simp; omega) ?_
          simpa using hg
      · cases h
end
end Go.Vq
namespace Go.Vq
structure VOperOk (P : Program) (all : Array Oper) (done : List Nat) (o : Oper) (v : VOper) : Prop where
  op : ∃ site, ((cOp P o site).getD .stuck).strip = v.op.strip
  dst : v.dst = o.dst
  guard : (o.guard = none ∧ v.guard = none) ∨ ∃ j want s, o.guard = some (j, want) ∧ (all[j]?).bind (·.dst) = some s ∧ v.guard = some (s, want)
  before : v.before = vbef done o
  edges : ∀ e ∈ o.after.toList, Region.binds .any e = true → e.on < done.length
theorem cOps_ok {P : Program} {all : Array Oper} : ∀ {os : List Oper} {vs : List VOper} {site m : Nat} {done : List Nat}, cOps P all site done os = some (m, vs.map VOper.strip) →
    vs.length = os.length ∧ ∀ (i : Nat) (o : Oper) (v : VOper), os[i]? = some o → vs[i]? = some v → VOperOk P all (done ++ (vs.take i).map (·.before)) o v
  | [], vs, site, m, done, h => by
    simp only [cOps, Option.some.injEq, Prod.mk.injEq] at h
    have : vs = [] := by cases vs <;> simp at h ⊢
    subst this
    exact ⟨rfl, fun i o v h => by simp at h⟩
  | o :: os, vs, site, m, done, h => by
    simp only [cOps, Option.bind_eq_bind, Option.pure_def] at h
    obtain ⟨g, hg, h⟩ := Option.bind_eq_some_iff.1 h
    split at h
    · cases h
    · rename_i hedge
      obtain ⟨⟨m', rest⟩, hrest, h⟩ := Option.bind_eq_some_iff.1 h
      simp only [Option.some.injEq, Prod.mk.injEq] at h
      obtain ⟨h1, h2⟩ := h
      cases vs with
      | nil => simp at h2
      | cons v vs =>
        simp only [List.map_cons, List.cons.injEq] at h2
        obtain ⟨hv, hvs⟩ := h2
        rw [hvs] at hrest
        have hb : v.before = vbef done o := by have := congrArg VOper.before hv; simpa [VOper.strip] using this.symm
        obtain ⟨i1, i2⟩ := cOps_ok hrest
        refine ⟨by simp [i1], fun i o' v' ho hv' => ?_⟩
        cases i with
        | zero =>
          simp at ho hv'; subst ho hv'
          refine ⟨⟨site, ?_⟩, ?_, ?_, by simpa using hb, ?_⟩
          · have := congrArg VOper.op hv; simp only [VOper.strip] at this; exact this
          · have := congrArg VOper.dst hv; simp only [VOper.strip] at this; exact this.symm
          · have hvg : v.guard = g := by have := congrArg VOper.guard hv; simp only [VOper.strip] at this; exact this.symm
            rw [hvg]
            unfold cGuard at hg
            split at hg
            · rename_i hog; cases hg; exact .inl ⟨hog, rfl⟩
            · rename_i j want hog
              obtain ⟨s, hs, rfl⟩ := Option.map_eq_some_iff.1 hg
              exact .inr ⟨j, want, s, hog, hs, rfl⟩
          · intro e he hb
            simp only [List.any_eq_true, Bool.and_eq_true, decide_eq_true_eq, not_exists, not_and, Nat.not_le] at hedge
            simpa using hedge e he hb
        | succ i =>
          have := i2 i o' v' (by simpa using ho) (by simpa using hv')
          rw [← hb, List.append_assoc] at this
          simpa using this
def Fw (r : Option Nat) : Fence := { Fence.wide with round := r }
theorem callsIn_fw {r : Option Nat} {n : Nat} {P : Program} {f : FuncId} {args : Array Value} {w : World} {R : Ending → World → Prop} : CallsIn (Fw r) n P f args w R ↔ Calls P f args w R := callsIn_wide (n := n)
theorem upon_in {r : Option Nat} {n : Nat} {P : Program} {o : Oper} {a : Act} {next : Act → World → Prop} {Q : Exit → Act → World → Prop} {x : Result Next} (h : o.upon P a next Q x) : o.uponIn (Fw r) n P a next Q x := by
  cases x with
  | ok x w' =>
    cases x with
    | value v => exact h
    | skip => exact h
    | defer d => exact h
    | enter f args => exact ⟨fun h => (by cases h), callsIn_fw.2 h⟩
    | row row args => exact ⟨fun h => (by cases h), fun c cs _ => let ⟨v, w', r, s⟩ := h c cs; ⟨v, w', r, stepsIn_wide.2 s⟩⟩
    | _ => exact h.elim
  | halt x w' => cases x <;> exact h
theorem oper_in {r : Option Nat} {n : Nat} {P : Program} {o : Oper} {a : Act} {w : World} {next : Act → World → Prop} {Q : Exit → Act → World → Prop} (h : o.wp P a w next Q) (hd : ∀ c, o.op ≠ .defer c) : o.wpIn (Fw r) n P a w next Q :=
  ⟨fun _ _ => trivial, by rw [Oper.semAt_eq _ _ _ hd]; exact upon_in h⟩
section
variable {P : Program} {n base : Nat} {E E' E2 : Env} {σ σ' : St} {hs : List V} {ts xs : List Value} {H H' H2 : Array Go.Obj}
variable {callee : Callee} {o : Oper} {a : Act} {w : World} {next : Act → World → Prop} {Q : Exit → Act → World → Prop}
theorem skip_sound {d : Option Nat} (hC : CoreS n E σ [] a.tmps.toList [] w.heap) (hr : (skipP d).run σ = some σ') (K : NextOk n base E σ' a w next) : next (a.put d undef) w := by
  have hC1 : CoreS n E σ ([] ++ [.tup []]) a.tmps.toList ([] ++ [undef]) w.heap :=
    hC.push (by simp [V.leaves]) ⟨⟨#[], rfl, rfl, fun i v x h => by simp at h⟩, fun i u y h => by simp [V.leaves] at h⟩ (by intro r hr; simp [V.refs, V.leaves] at hr)
  obtain ⟨E2, σ2, h1, h2, _, h3⟩ := putO_sound (base := base) (hs := []) (xs := []) hC1 hr
  cases h3
  exact K E2 _ w (by rw [put_toList]; exact h1) h2 (WSame.refl _) (put_defers _ _ _)
theorem voper_sound {all : Array Oper} {done : List Nat} {v : VOper} (hcallee : CalleeOk P callee) (hv : VOperOk P all done o v) (hC : CoreS n E σ [] a.tmps.toList [] w.heap)
    (hr : (v.prog callee base).run σ = some σ') (K : NextOk n base E σ' a w next) :
    (Region.wanted o (yielded all a.tmps) = true ∧ o.wp P a w next Q ∧ ∀ c, o.op ≠ .defer c) ∨ (Region.wanted o (yielded all a.tmps) = false ∧ next (a.put o.dst undef) w) := by
  obtain ⟨site, hst⟩ := hv.op
  have hrun : (opProg callee base v.dst v.op).run σ = some σ' → o.wp P a w next Q ∧ ∀ c, o.op ≠ .defer c := by
    intro h
    rw [hv.dst] at h
    cases hop : cOp P o site with
    | some v0 =>
      rw [hop] at hst
      refine ⟨op_sound hcallee hop hst hC h K, fun c hc => ?_⟩
      unfold cOp at hop
      rw [hc] at hop
      cases hop
    | none =>
      rw [hop] at hst
      have hst : VOp.stuck = v.op.strip := hst
      rw [strip_plain hst (by simp) (by simp)] at h
      cases h
  rcases hv.guard with ⟨g1, g2⟩ | ⟨j, want, s, g1, g2, g3⟩
  · left
    refine ⟨by simp [Region.wanted, g1], hrun ?_⟩
    simp only [VOper.prog, g2] at hr; exact hr
  · simp only [VOper.prog, g3, Prog.run] at hr
    have hn : s < n := by
      rcases Nat.lt_or_ge s n with h | h
      · exact h
      · rw [hC.slotBig (by omega)] at hr; cases hr
    have hS := hC.slotRel hn
    obtain ⟨x, hx⟩ := exists_getElem? (l := a.tmps.toList) (i := s) (hC.tl ▸ hn)
    rw [getD_of_getElem? hx] at hS
    have hx' : a.tmps[s]? = some x := by simpa using hx
    split at hr
    · rename_i b hb
      rw [hb] at hS
      have e := slot_toVal (y := .bool b) hS rfl
      subst e
      have hy : yielded all a.tmps j = some b := by simp only [yielded, g2, Option.bind_some, hx']
      rw [Prog.run_ite] at hr
      split at hr
      · rename_i hbw
        left
        refine ⟨?_, hrun hr⟩
        simp only [Region.wanted, g1, hy]
        simp only [beq_iff_eq] at hbw
        simp [hbw]
      · rename_i hbw
        right
        refine ⟨?_, ?_⟩
        · simp only [Region.wanted, g1, hy]
          simp only [beq_iff_eq] at hbw
          simp [hbw]
        · rw [hv.dst] at hr
          exact skip_sound hC hr K
    · rename_i hb
      rw [hb] at hS
      obtain ⟨xs, rfl, _⟩ := hS.1
      have hy : yielded all a.tmps j = none := by simp only [yielded, g2, Option.bind_some, hx']
      right
      refine ⟨by simp only [Region.wanted, g1, hy]; simp, ?_⟩
      rw [hv.dst] at hr
      exact skip_sound hC hr K
    · cases hr
def runAt (callee : Callee) (base : Nat) (vs : List VOper) : List Nat → St → Option St
  | [], σ => some σ
  | i :: L, σ => match vs[i]? with
    | some v => match (v.prog callee base).run σ with
      | some σ1 => runAt callee base vs L σ1
      | none => none
    | none => none
theorem wpOps_sound {r : Option Nat} {nf : Nat} {ops : Array Oper} {vs : List VOper} {D : Nat → List Nat} (hcallee : CalleeOk P callee) (hlen : vs.length = ops.size) (hok : ∀ (i : Nat) (o : Oper) (v : VOper), ops[i]? = some o → vs[i]? = some v → VOperOk P ops (D i) o v) :
    ∀ (L : List Nat) {E : Env} {σ : St} {a : Act} {w : World}, runAt callee base vs L σ = some σ' → CoreS n E σ [] a.tmps.toList [] w.heap → NextOk n base E σ' a w (Q .normal) → wpOpsIn (Fw r) nf P ops Q L a w
  | [], E, σ, a, w, hr, hC, K => by
    cases hr
    exact K E a w hC (Grow.refl _ _ _) (WSame.refl _) rfl
  | i :: L, E, σ, a, w, hr, hC, K => by
    simp only [runAt] at hr
    split at hr
    · rename_i v hv
      split at hr
      · rename_i σ1 h1
        have hi := lt_of_getElem? hv
        have ho : ops[i]? = some ops[i] := Array.getElem?_eq_getElem (hlen ▸ hi)
        simp only [wpOpsIn, ho]
        have := voper_sound (Q := Q) (next := wpOpsIn (Fw r) nf P ops Q L) (base := base) hcallee (hok i _ v ho hv) hC h1 (fun E' a' w' h2 h3 h4 h5 => wpOps_sound hcallee hlen hok L hr h2 fun E'' a'' w'' k1 k2 k3 k4 => K E'' a'' w'' k1 (h3.trans k2) (h4.trans k3) (k4.trans h5))
        rcases this with ⟨h2, h3⟩ | ⟨h2, h3⟩
        · rw [if_pos h2]; exact oper_in h3.1 h3.2
        · rw [if_neg (by rw [h2]; simp)]; exact ⟨fun _ _ => trivial, h3⟩
      · cases hr
    · cases hr
theorem runOps_at : ∀ (vs pre : List VOper) (σ : St), runOps callee base vs σ = runAt callee base (pre ++ vs) (List.range' pre.length vs.length) σ
  | [], pre, σ => rfl
  | v :: vs, pre, σ => by
    simp only [runOps, List.length_cons, List.range'_succ, runAt]
    rw [List.getElem?_append_right (Nat.le_refl _), Nat.sub_self]
    simp only [List.getElem?_cons_zero]
    cases h : (v.prog callee base).run σ with
    | none => rfl
    | some σ1 =>
      have := runOps_at vs (pre ++ [v]) σ1
      simp only
      rw [this]; simp
theorem testBit_two_pow' (i j : Nat) : (2 ^ i).testBit j = decide (i = j) := Nat.testBit_two_pow
theorem vbef_bit {done : List Nat} {o : Oper} {j : Nat} (h : (vbef done o).testBit j = true) : ∃ e ∈ o.after.toList, Region.binds .any e = true ∧ (j = e.on ∨ (done.getD e.on 0).testBit j = true) := by
  unfold vbef at h
  have key : ∀ (l : List Edge) (s : Nat), (l.foldl (fun s e => if Region.binds .any e then s ||| 2 ^ e.on ||| done.getD e.on 0 else s) s).testBit j = true → s.testBit j = true ∨ ∃ e ∈ l, Region.binds .any e = true ∧ (j = e.on ∨ (done.getD e.on 0).testBit j = true) := by
    intro l
    induction l with
    | nil => intro s h; exact .inl h
    | cons e l ih =>
      intro s h
      rcases ih _ h with h1 | ⟨e', h1, h2⟩
      · dsimp only at h1
        split at h1
        · rename_i hb
          simp only [Nat.testBit_or, testBit_two_pow', Bool.or_eq_true, decide_eq_true_eq] at h1
          rcases h1 with (h1 | h1) | h1
          · exact .inl h1
          · exact .inr ⟨e, List.mem_cons_self .., hb, .inl h1.symm⟩
          · exact .inr ⟨e, List.mem_cons_self .., hb, .inr h1⟩
        · exact .inl h1
      · exact .inr ⟨e', List.mem_cons_of_mem _ h1, h2⟩
  rcases key _ _ h with h | h
  · simp at h
  · exact h
theorem binds_any {m : Region.Mode} {e : Edge} (h : Region.binds .any e = true) : Region.binds m e = true := by
  unfold Region.binds at *
  cases hg : e.ground <;> simp only [hg] at h ⊢ <;> cases h
theorem exists_least {p : Nat → Bool} {i : Nat} (h : p i = true) : ∃ k, k ≤ i ∧ p k = true ∧ ∀ j, j < k → p j = false := by
  induction i using Nat.strongRecOn with
  | _ i ih =>
    by_cases hj : ∃ j, j < i ∧ p j = true
    · obtain ⟨j, h1, h2⟩ := hj
      obtain ⟨k, k1, k2, k3⟩ := ih j h1 h2
      exact ⟨k, by omega, k2, k3⟩
    · refine ⟨i, Nat.le_refl _, h, fun j hlt => ?_⟩
      cases hp : p j with
      | false => rfl
      | true => exact absurd ⟨j, hlt, hp⟩ hj
theorem range_split {n i : Nat} (h : i < n) : List.range n = List.range i ++ i :: List.range' (i + 1) (n - i - 1) := by
  obtain ⟨k, rfl⟩ : ∃ k, n = i + (k + 1) := ⟨n - i - 1, by omega⟩
  rw [show i + (k + 1) - i - 1 = k by omega, List.range_eq_range', List.range_eq_range']
  have := List.range'_append (s := 0) (m := i) (n := k + 1) (step := 1)
  rw [← this, List.range'_succ]
  simp
end
end Go.Vq
namespace Go.Vq
section
variable {P : Program} {n base : Nat} {E E' E2 : Env} {σ σ' : St} {hs : List V} {ts xs : List Value} {H H' H2 : Array Go.Obj}
variable {callee : Callee} {o : Oper} {a : Act} {w : World} {next : Act → World → Prop} {Q : Exit → Act → World → Prop}
theorem go_acc {m : Region.Mode} {ops : Array Oper} : ∀ (fuel t : Nat) (listed : Array Bool) (acc : List Nat), Region.linearise.go m ops fuel t listed acc = acc.reverse ++ Region.linearise.go m ops fuel t listed []
  | 0, t, listed, acc => by simp [Region.linearise.go]
  | fuel + 1, t, listed, acc => by
    simp only [Region.linearise.go]
    split
    · rename_i i _
      rw [go_acc fuel _ _ (i :: acc), go_acc fuel _ _ [i]]
      simp
    · simp
def rem (m : Nat) (listed : Array Bool) : List Nat := (List.range m).filter fun i => !listed.getD i true
theorem getD_set {listed : Array Bool} {i j : Nat} (h : i < listed.size) : (listed.setIfInBounds i true).getD j true = if j = i then true else listed.getD j true := by
  simp only [Array.getD_eq_getD_getElem?]
  by_cases e : j = i
  · subst e; rw [if_pos rfl, Array.getElem?_setIfInBounds_self_of_lt h]; rfl
  · rw [if_neg e, Array.getElem?_setIfInBounds_ne (fun h => e h.symm)]
theorem filter_same {α : Type} {p q : α → Bool} : ∀ {l : List α}, (∀ x ∈ l, p x = q x) → l.filter p = l.filter q
  | [], _ => rfl
  | x :: l, h => by
    have h1 := h x (by simp)
    have h2 := filter_same (p := p) (q := q) (l := l) fun y hy => h y (List.mem_cons_of_mem _ hy)
    simp only [List.filter_cons, h1, h2]
theorem rem_split {m i : Nat} {listed : Array Bool} (hs : listed.size = m) (hi : i < m) (hl : listed.getD i true = false) :
    ∃ L1 L2, rem m listed = L1 ++ i :: L2 ∧ rem m (listed.setIfInBounds i true) = L1 ++ L2 ∧ ∀ j ∈ L1, j < i ∧ listed.getD j true = false := by
  refine ⟨(List.range i).filter fun j => !listed.getD j true, (List.range' (i + 1) (m - i - 1)).filter fun j => !listed.getD j true, ?_, ?_, fun j hj => ?_⟩
  · unfold rem
    rw [range_split hi, List.filter_append, List.filter_cons, hl]
    simp
  · unfold rem
    rw [range_split hi, List.filter_append, List.filter_cons, getD_set (hs ▸ hi), if_pos rfl]
    simp only [Bool.not_true, Bool.false_eq_true, if_false]
    congr 1
    · refine filter_same fun j hj => ?_
      rw [getD_set (hs ▸ hi), if_neg (by have := List.mem_range.1 hj; omega)]
    · refine filter_same fun j hj => ?_
      rw [getD_set (hs ▸ hi), if_neg (by have := List.mem_range'.1 hj; obtain ⟨k, _, rfl⟩ := this; omega)]
  · obtain ⟨h1, h2⟩ := List.mem_filter.1 hj
    exact ⟨List.mem_range.1 h1, by simpa using h2⟩
theorem go_run {ops : Array Oper} {vs : List VOper} {fs : List (List Loc × List Loc)} {m : Region.Mode} {rank : Nat → Nat} (hrank : ∀ (i : Nat) (o : Oper), ops[i]? = some o → ∀ e ∈ o.after.toList, Region.binds m e = true → e.on < ops.size ∧ rank e.on < rank i) (hlen : vs.length = ops.size) (hok : ∀ (i : Nat) (o : Oper) (v : VOper), ops[i]? = some o → vs[i]? = some v → VOperOk P ops ((vs.take i).map (·.before)) o v)
    (hf : fs.length = vs.length) (hpair : ∀ (l : Nat) (v : VOper) (f : List Loc × List Loc), vs[l]? = some v → fs[l]? = some f → ∀ (k : Nat) (g : List Loc × List Loc), k < l → fs[k]? = some g → v.before.testBit k = true ∨ clash g f = false) :
    ∀ (fuel t : Nat) (listed : Array Bool) (σ : St), listed.size = ops.size → (rem ops.size listed).length = fuel → (∀ (k : Nat) (v : VOper) (j : Nat), vs[k]? = some v → listed.getD k true = true → v.before.testBit j = true → listed.getD j true = true) →
      RunF callee base ((rem ops.size listed).map fun i => vs.getD i default) ((rem ops.size listed).map fun i => fs.getD i default) σ σ' → runAt callee base vs (Region.linearise.go m ops fuel t listed []) σ = some σ'
  | 0, t, listed, σ, hs, hr, hcl, hrun => by
    have : rem ops.size listed = [] := List.eq_nil_of_length_eq_zero hr
    rw [this] at hrun
    simp only [Region.linearise.go, List.reverse_nil, runAt]
    simp only [List.map_nil, RunF] at hrun
    rw [hrun]
  | fuel + 1, t, listed, σ, hs, hr, hcl, hrun => by
    simp only [Region.linearise.go]
    have hready : ∃ i, i < ops.size ∧ listed.getD i true = false ∧ ((ops[i]?).map (·.after.all fun e => !Region.binds m e || listed.getD e.on false)).getD false = true := by
      obtain ⟨i0, hi0⟩ : ∃ i, i ∈ rem ops.size listed := by
        cases h : rem ops.size listed with
        | nil => rw [h] at hr; simp at hr
        | cons x l => exact ⟨x, by simp⟩
      obtain ⟨h1, h2⟩ := List.mem_filter.1 hi0
      obtain ⟨r, r1, r2, r3⟩ := exists_least (p := fun r => (rem ops.size listed).any fun i => rank i == r) (i := rank i0) (List.any_eq_true.2 ⟨i0, hi0, by simp⟩)
      obtain ⟨k, hk, hkr⟩ := List.any_eq_true.1 r2
      have hkr : rank k = r := by simpa using hkr
      obtain ⟨k1, k2⟩ := List.mem_filter.1 hk
      have k1 := List.mem_range.1 k1
      have k2 : listed.getD k true = false := by simpa using k2
      refine ⟨k, k1, k2, ?_⟩
      have ho : ops[k]? = some ops[k] := Array.getElem?_eq_getElem k1
      rw [ho]
      simp only [Option.map_some, Option.getD_some, Array.all_eq_true']
      intro e he
      cases hb : Region.binds m e with
      | false => rfl
      | true =>
      obtain ⟨e1, e2⟩ := hrank k _ ho e (by simpa using he) hb
      have hl : listed.getD e.on true = true := by
        cases hx : listed.getD e.on true with
        | true => rfl
        | false =>
          have := r3 (rank e.on) (by omega)
          have h := List.any_eq_false.1 this e.on (List.mem_filter.2 ⟨List.mem_range.2 e1, by rw [hx]; rfl⟩)
          simp at h
      have hl2 : listed.getD e.on false = true := by
        have hb : e.on < listed.size := by omega
        simp only [Array.getD_eq_getD_getElem?, Array.getElem?_eq_getElem hb, Option.getD_some] at hl ⊢
        exact hl
      rw [hl2]; simp
    generalize hrs : ((List.range ops.size).filter fun i => !listed.getD i true && ((ops[i]?).map (·.after.all fun e => !Region.binds m e || listed.getD e.on false)).getD false) = rs
    have hpos : 0 < rs.length := by
      obtain ⟨i, h1, h2, h3⟩ := hready
      rw [← hrs]
      exact List.length_pos_of_mem (List.mem_filter.2 ⟨List.mem_range.2 h1, by rw [h2, h3]; rfl⟩)
    have hlt := Nat.mod_lt t hpos
    rw [List.getElem?_eq_getElem hlt]
    simp only
    have hmem : rs[t % rs.length] ∈ rs := List.getElem_mem hlt
    generalize rs[t % rs.length] = i at hmem
    rw [← hrs] at hmem
    obtain ⟨h1, h2⟩ := List.mem_filter.1 hmem
    have hi := List.mem_range.1 h1
    simp only [Bool.and_eq_true, Bool.not_eq_true'] at h2
    obtain ⟨h2, h3⟩ := h2
    obtain ⟨L1, L2, r1, r2, r3⟩ := rem_split hs hi h2
    obtain ⟨v, hv⟩ := exists_getElem? (l := vs) (i := i) (by omega)
    obtain ⟨f, hfi⟩ := exists_getElem? (l := fs) (i := i) (by omega)
    have ho : ops[i]? = some ops[i] := Array.getElem?_eq_getElem hi
    have hvo := hok i _ v ho hv
    have hbefore : ∀ j, v.before.testBit j = true → listed.getD j true = true := by
      intro j hj
      rw [hvo.before] at hj
      obtain ⟨e, e1, e2, e3⟩ := vbef_bit hj
      have hel : listed.getD e.on true = true := by
        rw [ho] at h3
        simp only [Option.map_some, Option.getD_some, Array.all_eq_true'] at h3
        have := h3 e (by simpa using e1)
        rw [binds_any e2] at this
        simp only [Bool.not_true, Bool.false_or] at this
        simp only [Array.getD_eq_getD_getElem?] at this ⊢
        cases hx : listed[e.on]? with
        | none => rw [hx] at this; cases this
        | some b => rw [hx] at this; simpa using this
      rcases e3 with rfl | e3
      · exact hel
      · have hlt2 := hvo.edges e e1 e2
        simp only [List.length_map, List.length_take] at hlt2
        obtain ⟨v2, hv2⟩ := exists_getElem? (l := vs) (i := e.on) (by omega)
        refine hcl e.on v2 j hv2 hel ?_
        have : ((vs.take i).map (·.before)).getD e.on 0 = v2.before := by
          rw [List.getD_eq_getElem?_getD, List.getElem?_map, List.getElem?_take_of_lt (by omega), hv2]; rfl
        rw [this] at e3; exact e3
    rw [r1, List.map_append, List.map_append, List.map_cons, List.map_cons] at hrun
    have hgv : vs.getD i default = v := getD_of_getElem? hv
    have hgf : fs.getD i default = f := getD_of_getElem? hfi
    rw [hgv, hgf] at hrun
    obtain ⟨σ1, g1, g2, g3⟩ := RunF.pull (by simp) hrun (fun g hg => by
      obtain ⟨j, hj, rfl⟩ := List.mem_map.1 hg
      obtain ⟨q1, q2⟩ := r3 j hj
      obtain ⟨g, hg'⟩ := exists_getElem? (l := fs) (i := j) (by omega)
      rw [getD_of_getElem? hg']
      rcases hpair i v f hv hfi j g q1 hg' with h | h
      · have := hbefore j h
        rw [q2] at this; cases this
      · exact h)
    rw [go_acc]
    simp only [List.reverse_cons, List.reverse_nil, List.nil_append, List.singleton_append, runAt, hv, g1]
    rw [← List.map_append, ← List.map_append, ← r2] at g3
    refine go_run hrank hlen hok hf hpair fuel _ _ σ1 (by simpa using hs) ?_ (fun k v' j hk hlk hj => ?_) g3
    · rw [r1] at hr; rw [r2]; simp only [List.length_append, List.length_cons] at hr ⊢; omega
    · rw [getD_set (by omega)] at hlk ⊢
      by_cases hji : j = i
      · rw [if_pos hji]
      · rw [if_neg hji]
        by_cases hki : k = i
        · subst hki
          rw [hv] at hk; cases hk
          exact hbefore j hj
        · rw [if_neg hki] at hlk
          exact hcl k v' j hk hlk hj
theorem map_getD {α : Type} [Inhabited α] (l : List α) : (List.range l.length).map (fun i => l.getD i default) = l := by
  apply List.ext_getElem
  · simp
  · intro i h1 h2
    simp [List.getD_eq_getElem?_getD, List.getElem?_eq_getElem h2]
theorem ordOk_rank {ops : Array Oper} (h : ordOk ops = true) (m : Region.Mode) : ∃ rank : Nat → Nat, ∀ (i : Nat) (o : Oper), ops[i]? = some o → ∀ e ∈ o.after.toList, Region.binds m e = true → e.on < ops.size ∧ rank e.on < rank i := by
  have key : ∀ (i : Nat) (o : Oper), ops[i]? = some o → ∀ e ∈ o.after.toList, e.on < ops.size ∧ ((∀ d, e.ground ≠ .gcOnly d) → e.on < i) ∧ (Region.binds .gc e = true → (Region.linearise .gc ops 0).findIdx (· == e.on) < (Region.linearise .gc ops 0).findIdx (· == i)) := by
    intro i o ho e he
    have hi : i < ops.size := by
      rcases Nat.lt_or_ge i ops.size with h | h
      · exact h
      · rw [Array.getElem?_eq_none h] at ho; cases ho
    have h1 := List.all_eq_true.1 h i (List.mem_range.2 hi)
    rw [ho] at h1
    have h2 := List.all_eq_true.1 h1 e he
    simp only [Bool.and_eq_true, decide_eq_true_eq, Bool.or_eq_true, Bool.not_eq_true'] at h2
    obtain ⟨⟨a1, a2⟩, a3⟩ := h2
    refine ⟨a1, fun hg => ?_, fun hb => ?_⟩
    · split at a2
      · rename_i d hd; exact absurd hd (hg d)
      · simpa using a2
    · rcases a3 with a3 | a3
      · rw [hb] at a3; cases a3
      · exact a3
  cases m with
  | gc => exact ⟨fun i => (Region.linearise .gc ops 0).findIdx (· == i), fun i o ho e he hb => ⟨(key i o ho e he).1, (key i o ho e he).2.2 hb⟩⟩
  | any => exact ⟨id, fun i o ho e he hb => ⟨(key i o ho e he).1, (key i o ho e he).2.1 fun d hd => by simp [Region.binds, hd] at hb⟩⟩
  | text => exact ⟨id, fun i o ho e he hb => ⟨(key i o ho e he).1, (key i o ho e he).2.1 fun d hd => by simp [Region.binds, hd] at hb⟩⟩
theorem sched_run {ops : Array Oper} {vs : List VOper} (hord : ordOk ops = true) (hlen : vs.length = ops.size) (hok : ∀ (i : Nat) (o : Oper) (v : VOper), ops[i]? = some o → vs[i]? = some v → VOperOk P ops ((vs.take i).map (·.before)) o v) (hr : runDraw callee base vs [] σ = some σ') (m : Region.Mode) (t : Nat) :
    runAt callee base vs (Region.linearise m ops t) σ = some σ' := by
  obtain ⟨fs, h1, h2⟩ := runDraw_sound hr
  have hfl := h1.len
  have hrem : rem ops.size (Array.replicate ops.size false) = List.range vs.length := by
    unfold rem
    rw [hlen, List.filter_eq_self]
    intro i hi
    have := List.mem_range.1 hi
    simp [this]
  unfold Region.linearise
  obtain ⟨rank, hrank⟩ := ordOk_rank hord m
  refine go_run hrank hlen hok hfl (fun l v f hv hf k g hk hg => h2 l v f hv hf k g (by simpa using hk) (by simpa using hg)) _ _ _ σ (by simp) (by rw [hrem]; simp [hlen]) (fun k v j hk hl _ => ?_) ?_
  · exfalso
    have hk' := lt_of_getElem? hk
    have hk2 : k < ops.size := by omega
    simp [hk2] at hl
  · rw [hrem, map_getD]
    have := map_getD fs
    rw [hfl] at this
    rw [this]; exact h1
theorem region_sound {r : Option Nat} {nf : Nat} {id : Nat} {ops : Array Oper} {vs : List VOper} {draw : Bool} {site m : Nat} (hcallee : CalleeOk P callee) (hc : cOps P ops site [] ops.toList = some (m, vs.map VOper.strip)) (hord : (draw && !ordOk ops) = false) (hC : CoreS n E σ [] a.tmps.toList [] w.heap)
    (hr : (if draw then runDraw callee base vs [] σ else runOps callee base vs σ) = some σ') (K : NextOk n base E σ' a w (Q .normal)) : (Code.region id ops draw).wpIn (Fw r) nf P Q a w := by
  obtain ⟨hl, hok⟩ := cOps_ok hc
  have hlen : vs.length = ops.size := by simpa using hl
  have hok' : ∀ (i : Nat) (o : Oper) (v : VOper), ops[i]? = some o → vs[i]? = some v → VOperOk P ops ((vs.take i).map (·.before)) o v := fun i o v ho hv => by
    have := hok i o v (by simpa using ho) hv
    simpa using this
  cases draw with
  | false =>
    simp only [Bool.false_eq_true, if_false] at hr
    refine wpIn_region ?_
    have := runOps_at (callee := callee) (base := base) vs [] σ
    rw [hr] at this
    simp only [List.nil_append, List.length_nil] at this
    rw [← hlen, List.range_eq_range']
    exact wpOps_sound (base := base) hcallee hlen hok' _ this.symm hC K
  | true =>
    simp only [if_true] at hr
    refine wpIn_region_draw fun t => ?_
    have hs : ∃ m t', Region.schedule (P.follows .mixedOrders) ops t = Region.linearise m ops t' := by
      unfold Region.schedule
      split
      · exact ⟨_, _, rfl⟩
      · exact ⟨_, _, rfl⟩
    obtain ⟨md, t', e⟩ := hs
    rw [e]
    exact wpOps_sound (base := base) hcallee hlen hok' _ (sched_run (by simpa using hord) hlen hok' hr md t') hC fun E' a' w' h1 h2 h3 h4 => K E' a' w' h1 h2 ⟨h3.os, h3.output, h3.tape⟩ h4
end
end Go.Vq
namespace Go.Vq
section
variable {P : Program} {n base : Nat} {E E' E2 : Env} {σ σ' : St} {hs : List V} {ts xs : List Value} {H H' H2 : Array Go.Obj} {keep ids : List Nat}
theorem rebSlots_get : ∀ (vs : List V) (j i : Nat), (rebSlots keep ids σ j vs)[i]? = (vs[i]?).map fun v => if keep.contains (j + i) then v.withLeaves (v.leaves.map (reb1 keep ids σ)) else .gone 0
  | [], j, i => by simp [rebSlots]
  | v :: vs, j, 0 => by simp [rebSlots]
  | v :: vs, j, i + 1 => by
    simp only [rebSlots, List.getElem?_cons_succ]
    rw [rebSlots_get vs (j + 1) i, show j + 1 + i = j + (i + 1) by omega]
theorem rebSlots_len : ∀ (vs : List V) (j : Nat), (rebSlots keep ids σ j vs).length = vs.length
  | [], j => rfl
  | v :: vs, j => by simp [rebSlots, rebSlots_len]
theorem reb1_leaf {u : V} (h : u.leaf = true) : (reb1 keep ids σ u).leaf = true := by
  cases u <;> first
    | (simp [V.leaf] at h; done)
    | rfl
    | (simp only [reb1]; split <;> rfl)
    | (rename_i r; cases r <;> simp only [reb1] <;> split <;> rfl)
    | (rename_i r l; cases r <;> simp only [reb1] <;> split <;> rfl)
theorem reb1_inObj {u : V} (h : u.inObj = true) : (reb1 keep ids σ u).inObj = true := by
  cases u <;> first
    | (simp [V.inObj] at h; done)
    | exact h
    | rfl
    | (simp only [reb1]; split <;> rfl)
    | (rename_i r; cases r <;> first | (simp [V.inObj] at h; done) | (simp only [reb1]; split <;> rfl))
def rebSt (keep ids : List Nat) (σ : St) : St := { slots := rebSlots keep ids σ 0 σ.slots, objs := σ.objs.mapIdx fun i x => if ids.contains i then rebObj keep ids σ x else none }
theorem rebSt_obj {o : Nat} {x : Option Obj} (h : σ.objs[o]? = some x) : (rebSt keep ids σ).objs[o]? = some (if ids.contains o then rebObj keep ids σ x else none) := by
  simp only [rebSt, List.getElem?_mapIdx, h, Option.map_some]
theorem reb_alive {o : Nat} (h : alive σ.objs o) (hi : ids.contains o = true) : alive (rebSt keep ids σ).objs o := by
  obtain ⟨x, hx⟩ := h
  have := rebSt_obj (keep := keep) (ids := ids) hx
  rw [if_pos hi] at this
  cases x with
  | cells cs => exact ⟨_, this⟩
  | map es => exact ⟨_, this⟩
theorem homeOk_ct (hC : CoreS n E σ [] ts [] H) {h : Home} {g : Nat} (hk : homeOk keep ids σ h g = true) : ∃ w, ct σ.slots σ.objs h = some w ∧ (∃ sz es, w = .xsl g sz es ∨ w = .isl g sz es ∨ w = .fsl g sz es) ∧ ct (rebSt keep ids σ).slots (rebSt keep ids σ).objs h = some (reb1 keep ids σ w) := by
  have hat : ∀ {x : Option V}, (match x with | some (.xsl g' _ _) | some (.isl g' _ _) | some (.fsl g' _ _) => g' == g | _ => false) = true → ∃ w, x = some w ∧ ∃ sz es, w = .xsl g sz es ∨ w = .isl g sz es ∨ w = .fsl g sz es := by
    intro x hx
    split at hx <;> first
      | (cases hx; done)
      | (simp only [beq_iff_eq] at hx; subst hx; exact ⟨_, rfl, _, _, .inl rfl⟩)
      | (simp only [beq_iff_eq] at hx; subst hx; exact ⟨_, rfl, _, _, .inr (.inl rfl)⟩)
      | (simp only [beq_iff_eq] at hx; subst hx; exact ⟨_, rfl, _, _, .inr (.inr rfl)⟩)
  cases h with
  | slot s off =>
    simp only [homeOk, Bool.and_eq_true] at hk
    obtain ⟨w, hw, hf⟩ := hat hk.2
    refine ⟨w, hw, hf, ?_⟩
    have hs : s < n := by
      rcases Nat.lt_or_ge s n with h | h
      · exact h
      · rw [hC.slotBig (by omega)] at hw
        cases off with
        | zero => simp [V.leaves] at hw; subst hw; obtain ⟨_, _, h | h | h⟩ := hf <;> cases h
        | succ i => simp [V.leaves] at hw
    have hS := hC.slotRel hs
    obtain ⟨v, hv⟩ := exists_getElem? (l := σ.slots) (i := s) (hC.sl ▸ hs)
    have e : σ.slot s = v := getD_of_getElem? hv
    rw [e] at hw hS
    have hg := rebSlots_get (keep := keep) (ids := ids) (σ := σ) σ.slots 0 s
    rw [hv, Nat.zero_add] at hg
    simp only [Option.map_some, hk.1, if_true] at hg
    simp only [ct, rebSt, List.getD_eq_getElem?_getD, hg, Option.getD_some]
    rw [withLeaves_leaves hS.formed (by simp) (fun u hu => by
      obtain ⟨u0, hu0, rfl⟩ := List.mem_map.1 hu
      exact reb1_leaf (hS.leafs u0 hu0)), List.getElem?_map, hw]
    rfl
  | obj o off =>
    simp only [homeOk, Bool.and_eq_true] at hk
    obtain ⟨hi, hk⟩ := hk
    split at hk
    · rename_i cs ho
      obtain ⟨w, hw, hf⟩ := hat hk
      have ho' := obj_some ho
      have := rebSt_obj (keep := keep) (ids := ids) ho'
      rw [if_pos hi] at this
      refine ⟨w, by simp only [ct, ho']; exact hw, hf, ?_⟩
      simp only [ct, this, rebObj, List.getElem?_map, hw]; rfl
    · cases hk
theorem homeOk_valid (hC : CoreS n E σ [] ts [] H) {h : Home} {g sz : Nat} (hk : homeOk keep ids σ h g = true) (hv : valid (rebSt keep ids σ).slots (rebSt keep ids σ).objs h 0 sz) : valid σ.slots σ.objs h g sz := by
  obtain ⟨w, h1, ⟨sz', es, hf⟩, h2⟩ := homeOk_ct hC hk
  obtain ⟨w', h3, h4⟩ := hv
  rw [h2] at h3; cases h3
  refine ⟨w, h1, ?_⟩
  rcases hf with rfl | rfl | rfl <;> (simp only [reb1, V.gen?, Option.some.injEq, Prod.mk.injEq] at h4 ⊢; exact ⟨trivial, h4.2⟩)
theorem reb1_rel (hC : CoreS n E σ [] ts [] H) {h : Home} {u : V} {y : Value} (hR : RelV E σ.slots σ.objs ts H h u y) : RelV E (rebSt keep ids σ).slots (rebSt keep ids σ).objs ts H h (reb1 keep ids σ u) y := by
  cases u <;> first | exact hR.elim | skip
  case srf hh g sz off len =>
    simp only [reb1]
    split
    · rename_i hk
      obtain ⟨a', c', e1, e2, e3, e4, e5⟩ := hR
      exact ⟨a', c', e1, e2, e3, e4, fun hvl => e5 (homeOk_valid hC hk hvl)⟩
    · trivial
  case ptr r =>
    cases r with
    | obj o off =>
      simp only [reb1]
      split
      · rename_i hi
        exact ⟨hR.1, reb_alive hR.2 hi⟩
      · trivial
    | elem hh g sz i off =>
      simp only [reb1]
      split
      · rename_i hk
        obtain ⟨ad', e1, e2⟩ := hR
        exact ⟨ad', e1, fun hvl => e2 (homeOk_valid hC hk hvl)⟩
      · trivial
  case asl r len =>
    cases r with
    | obj o off =>
      simp only [reb1]
      split
      · rename_i hi
        obtain ⟨c, e1, e2, e3⟩ := hR
        exact ⟨c, e1, e2, reb_alive e3 hi⟩
      · trivial
    | elem hh g sz i off =>
      simp only [reb1]
      split
      · rename_i hk
        obtain ⟨ad', c', e1, e2, e3, e4⟩ := hR
        exact ⟨ad', c', e1, e2, e3, fun hvl => e4 (homeOk_valid hC hk hvl)⟩
      · trivial
  case map o =>
    simp only [reb1]
    split
    · rename_i hi
      exact ⟨hR.1, reb_alive hR.2 hi⟩
    · trivial
  case func f cs =>
    simp only [reb1]
    split
    · rename_i hi
      exact RelC.mono (fun _ _ h => ⟨h, rfl⟩) hR (fun o ho hal => ⟨rfl, reb_alive hal (List.all_eq_true.1 hi o ho)⟩)
    · trivial
  case nilS sz =>
    have e := relV_toVal hR rfl
    subst e
    exact ⟨none, 0, rfl, Nat.le_refl _, fun _ => rfl, fun _ h => (by cases h), fun h => absurd rfl h, Elems.nil _ _ _ _⟩
  case isl g sz es =>
    simp only [RelV, reb1] at hR ⊢
    cases hR with
    | isl _ _ _ a cap xs hc ha hsp hz hx h => exact .isl _ _ _ a cap xs hc ha hsp hz hx h
  all_goals exact hR
theorem reb_sound (hC : CoreS n E σ [] ts [] H) : CoreS n E (rebSt keep ids σ) [] ts [] H := by
  have h0 := hC.core
  simp only [List.append_nil] at h0
  have hsl : (rebSt keep ids σ).slots.length = n := by simp only [rebSt, rebSlots_len]; exact hC.sl
  refine ⟨hsl, hC.tl, ?_⟩
  simp only [List.append_nil]
  have hget : ∀ (s : Nat) (v' : V), (rebSt keep ids σ).slots[s]? = some v' → ∃ v, σ.slots[s]? = some v ∧ ((keep.contains s = true ∧ v' = v.withLeaves (v.leaves.map (reb1 keep ids σ))) ∨ v' = .gone 0) := by
    intro s v' hv'
    simp only [rebSt, rebSlots_get, Nat.zero_add] at hv'
    obtain ⟨v, hv, e⟩ := Option.map_eq_some_iff.1 hv'
    refine ⟨v, hv, ?_⟩
    split at e
    · exact .inl ⟨by assumption, e.symm⟩
    · exact .inr e.symm
  have hlv : ∀ (s : Nat) (v : V), σ.slots[s]? = some v → (v.withLeaves (v.leaves.map (reb1 keep ids σ))).leaves = v.leaves.map (reb1 keep ids σ) ∧ v.formed ∧ ∀ u ∈ v.leaves.map (reb1 keep ids σ), u.leaf = true := by
    intro s v hv
    obtain ⟨x, hx⟩ := exists_getElem? (l := ts) (i := s) (by have := lt_of_getElem? hv; rw [hC.tl, ← hC.sl]; exact this)
    have hS := h0.slot s v x hv hx
    have hlf : ∀ u ∈ v.leaves.map (reb1 keep ids σ), u.leaf = true := by
      intro u hu
      obtain ⟨u0, hu0, rfl⟩ := List.mem_map.1 hu
      exact reb1_leaf (hS.leafs u0 hu0)
    exact ⟨withLeaves_leaves hS.formed (by simp) hlf, hS.formed, hlf⟩
  refine ⟨by rw [hsl, hC.tl], by rw [hsl]; exact Nat.le_refl _, fun s v' x hv' hx => ?_, fun o cs' ho' => ?_, h0.fresh, fun s v' hv' q hq => ?_⟩
  · obtain ⟨v, hv, ⟨_, rfl⟩ | rfl⟩ := hget s v' hv'
    · have hS := h0.slot s v x hv hx
      obtain ⟨l1, l2, l3⟩ := hlv s v hv
      refine ⟨?_, fun i u y hu hy => ?_⟩
      · by_cases hg : ∃ g, v = .gone g
        · obtain ⟨g, rfl⟩ := hg; trivial
        · exact withLeaves_shape l2 (by simp) l3 hS.1 (fun g e => hg ⟨g, e⟩)
      · rw [l1, List.getElem?_map] at hu
        obtain ⟨u0, hu0, rfl⟩ := Option.map_eq_some_iff.1 hu
        exact reb1_rel hC (hS.2 i u0 y hu0 hy)
    · exact ⟨trivial, fun i u y hu _ => by
        cases i with
        | zero => simp [V.leaves] at hu; subst hu; trivial
        | succ i => simp [V.leaves] at hu⟩
  · simp only [rebSt, List.getElem?_mapIdx] at ho'
    obtain ⟨x, hx, e⟩ := Option.map_eq_some_iff.1 ho'
    split at e
    · cases x with
      | none => cases e
      | some x =>
        cases x with
        | map => cases e
        | cells cs =>
          simp only [rebObj, Option.some.injEq, Obj.cells.injEq] at e
          subst e
          obtain ⟨arr, T, f, g1, g2, g3, g4, g5, g6⟩ := h0.obj o cs hx
          refine ⟨arr, T, f, g1, g2, by simpa using g3, g4, fun i u y hu hy => ?_, fun u hu => ?_⟩
          · rw [List.getElem?_map] at hu
            obtain ⟨u0, hu0, rfl⟩ := Option.map_eq_some_iff.1 hu
            exact reb1_rel hC (g5 i u0 y hu0 hy)
          · obtain ⟨u0, hu0, rfl⟩ := List.mem_map.1 hu
            exact reb1_inObj (g6 u0 hu0)
    · cases e
  · obtain ⟨v, hv, ⟨_, rfl⟩ | rfl⟩ := hget s v' hv'
    · obtain ⟨l1, l2, l3⟩ := hlv s v hv
      rw [refs_of_leaves l1, List.mem_flatMap] at hq
      obtain ⟨u, hu, hq⟩ := hq
      obtain ⟨u0, hu0, rfl⟩ := List.mem_map.1 hu
      have key : ∀ hh g, (hh, g) ∈ u0.refs1 → homeOk keep ids σ hh g = true → q = (hh, 0) → (∀ t i, q.1 = .slot t i → t < n) ∧ ∃ w, ct (rebSt keep ids σ).slots (rebSt keep ids σ).objs q.1 = some w ∧ q.2 < w.nextg := by
        intro hh g h1 h2 h3
        subst h3
        have hrf := h0.refs s v hv (hh, g) (by rw [V.refs, List.mem_flatMap]; exact ⟨u0, hu0, h1⟩)
        obtain ⟨w, w1, ⟨sz, es, w2⟩, w3⟩ := homeOk_ct hC h2
        refine ⟨hrf.1, _, w3, ?_⟩
        rcases w2 with rfl | rfl | rfl <;> simp [reb1, V.nextg]
      cases u0 <;> first
        | (simp [reb1, V.refs1] at hq; done)
        | (simp only [reb1] at hq; split at hq <;> simp [V.refs1] at hq; done)
        | skip
      case srf hh g sz off len =>
        simp only [reb1] at hq
        split at hq
        · exact key hh g (by simp [V.refs1]) (by assumption) (by simpa [V.refs1] using hq)
        · simp [V.refs1] at hq
      case ptr r =>
        cases r with
        | obj o off => simp only [reb1] at hq; split at hq <;> simp [V.refs1] at hq
        | elem hh g sz i off =>
          simp only [reb1] at hq
          split at hq
          · exact key hh g (by simp [V.refs1]) (by assumption) (by simpa [V.refs1] using hq)
          · simp [V.refs1] at hq
      case asl r len =>
        cases r with
        | obj o off => simp only [reb1] at hq; split at hq <;> simp [V.refs1] at hq
        | elem hh g sz i off =>
          simp only [reb1] at hq
          split at hq
          · exact key hh g (by simp [V.refs1]) (by assumption) (by simpa [V.refs1] using hq)
          · simp [V.refs1] at hq
    · simp [V.refs, V.leaves, V.refs1] at hq
theorem rebase_sound {keep : Option (List Nat)} (hC : CoreS n E σ [] ts [] H) : CoreS n E (rebase? keep base σ) [] ts [] H := by
  cases keep with
  | none => exact hC
  | some keep => exact reb_sound (keep := keep) (ids := keptObjs keep σ base) hC
end
end Go.Vq
namespace Go.Vq
open Go.RowKit
section
variable {F : Fence} {n : Nat} {P : Program} {w : World}
def IterGives (F : Fence) (n : Nat) (P : Program) (g : Nat) (lb : Array Value) (enc : Nat → Array Value) (N : Nat) (Kp : World → World → Prop) (w : World) : Prop :=
  ∀ (l : Nat) (J Jx : Nat → World → Prop) (W : World), Kp w W → (∀ k W1, J k W1 → J k W1.drew) →
    (∀ k W1, J k W1 → k < N → YieldAt F (n - 1) P l (enc k) W1 fun e W' =>
      (e = .returned (.bool true) ∧ J (k + 1) W' ∧ Kp W1 W') ∨ (e = .returned (.bool false) ∧ Jx k W')) →
    J 0 W →
    CallsIn F n P g (#[.func (.yield l) #[] #[]] ++ lb) W fun e W' => (∃ v, e = .returned v) ∧ (J N W' ∨ ∃ k, Jx k W')
def rangeEnd (B : Nat) (Kp : World → World → Prop) (I : Nat → World → Prop) (Ix : Code → World → Prop) (k : Nat) (W : World) : Exit → Act → World → Prop
  | .normal, _, W' => KeepsFrom B W W' ∧ Kp W W' ∧ I (k + 1) W'
  | .ret, _, W' => KeepsFrom B W W' ∧ Ix .ret W'
  | .exit id, _, W' => KeepsFrom B W W' ∧ Ix (.exit id) W'
  | _, _, _ => False
def Turns (B : Nat) (I : World → Prop) : Prop := ∀ (W : World) (l : Nat) (o o' : Go.Obj), B ≤ l → I W → W.heap[l]? = some o → o.isCells = false → o'.isCells = false → I (W.putObj l o')
theorem wpIn_range {g : Operand} {ps : Array Tmp} {assign body : Code} {Q : Exit → Act → World → Prop} {a : Act}
    (hro : F.round = none) (h1 : 1 ≤ n) {gf : Nat} {lb : Array Value} (hg : a.eval g = .func (.func gf) #[] lb) (hFg : F.fn gf) (eg : ∀ args w, (callFunc gf args).run P w = .ok (.enter gf args) w)
    {enc : Nat → Array Value} {Kp : World → World → Prop} {N : Nat} (hseq : IterGives F (n - 1) P gf lb enc N Kp w)
    (hKt : ∀ {A B C : World}, Kp A B → Kp B C → Kp A C) (hKb : ∀ (W : World) (l : Nat) (o o' : Go.Obj), w.heap.size ≤ l → W.heap[l]? = some o → o.isCells = false → Kp W (W.putObj l o'))
    (hKa : ∀ (W : World) (o : Go.Obj), w.heap.size ≤ W.heap.size → Kp W (W.alloc o)) (hps : ∀ k, k < N → (enc k).size = ps.size)
    (I : Nat → World → Prop) (Ix : Code → World → Prop) (hI : ∀ k, Turns w.heap.size (I k)) (hIx : ∀ c, Turns w.heap.size (Ix c)) (h0 : I 0 w) (hA : ∀ W (o : Go.Obj), o.isCells = false → I 0 W → I 0 (W.alloc o))
    (hround : ∀ (l k : Nat) (W : World), w.heap.size ≤ l → I k W → k < N →
      assign.wpIn (F.inRound l) (n - 1 - 1) P (Exit.then (fun a' W' => KeepsFrom w.heap.size W W' ∧ Kp W W' ∧ ∀ o o0 : Go.Obj, W'.heap[l]? = some o0 → o0.isCells = false → o.isCells = false →
        body.wpIn (F.inRound l) (n - 1 - 1) P (rangeEnd w.heap.size Kp I Ix k (W'.putObj l o)) a' (W'.putObj l o)) (fun _ _ _ => False)) { tmps := (ps.zip (enc k)).foldl (fun t (p, v) => t.setIfInBounds p v) a.tmps, defers := [] } W)
    (hdone : ∀ (D : Nat) (W : World), w.heap.size ≤ D → I N W → W.heap[D]? = some (.deferred (some [])) → Q .normal { a with defers := { target := .collected D, args := #[] } :: a.defers } W)
    (hstop : ∀ (D : Nat) (c : Code) (W : World), w.heap.size ≤ D → Ix c W → W.heap[D]? = some (.deferred (some [])) → c.wpIn F n P Q { a with defers := { target := .collected D, args := #[] } :: a.defers } W)
    (hId : ∀ k W, I k W → I k W.drew) :
    (Code.rangeFunc g ps assign body).wpIn F n P Q a w := by
  refine wpIn_rangeFunc ?_
  intro fn hfn
  rw [hro]
  obtain ⟨rec, hrec⟩ : ∃ rec : LoopState → Option Code → Loop, rec = fun st pe => { state := st, pending := pe, fn, tmps := a.tmps, params := ps, assign, body, defers := w.heap.size } := ⟨_, rfl⟩
  obtain ⟨W1, hW1⟩ : ∃ W1, (w.alloc (.deferred (some []))).alloc (.loop (rec .ready none)) = W1 := ⟨_, rfl⟩
  have hL1 : W1.heap[w.heap.size + 1]? = some (.loop (rec .ready none)) := by
    rw [← hW1]; have := World.alloc_heap_new (w.alloc (.deferred (some []))) (.loop (rec .ready none)); rwa [World.size_alloc] at this
  have hK1 : W1.heap[w.heap.size]? = some (.deferred (some [])) := by
    rw [← hW1]; exact (Below.heap_alloc _ _ _ (by simp)).trans (World.alloc_heap_new w _)
  have hI1 : I 0 W1 := by rw [← hW1]; exact hA _ _ rfl (hA _ _ rfl h0)
  have hb1 : Kp w W1 := by
    rw [← hW1]; exact hKt (hKa w _ (Nat.le_refl _)) (hKa _ _ (by simp))
  refine ⟨w.heap.size + 1, [{ target := .collected w.heap.size, args := #[] }], W1, { target := .fn (.func gf) lb, args := #[.func (.yield (w.heap.size + 1)) #[] #[]] }, W1, gf,
    #[.func (.yield (w.heap.size + 1)) #[] #[]] ++ lb, W1, ?_, ?_, ?_, ?_, fun _ => h1, ?_⟩
  · rw [← hW1, hrec]; exact run_enterLoop_outer _ _ _ _ _
  · simp only [resolve, hg]
    simp [go_sem]
  · intro f' hf'; simp [Target.leads] at hf'; subst hf'; exact hFg
  · simp [invoke, go_sem, eg]
  · refine (hseq (w.heap.size + 1)
      (fun k W => I k W ∧ W.heap[w.heap.size + 1]? = some (.loop (rec .ready none)) ∧ W.heap[w.heap.size]? = some (.deferred (some [])))
      (fun _ W => ∃ c, Ix c W ∧ W.heap[w.heap.size + 1]? = some (.loop (rec .done (some c))) ∧ W.heap[w.heap.size]? = some (.deferred (some [])))
      W1 hb1 (fun k W h => ⟨hId k W h.1, h.2.1, h.2.2⟩) ?_ ⟨hI1, hL1, hK1⟩).mono ?_
    · rintro k W ⟨hi, hl, hk⟩ hlen
      have hy := run_yield (P := P) (args := enc k) hl (by rw [hrec]; exact hps k hlen)
      rw [hrec] at hy
      refine ⟨fn, _, assign, body, hy, roundIn_of_wpIn hfn (wpIn_mono (hround _ k W (by omega) hi hlen) ?_)⟩
      clear hy
      intro e a' Wa hpost
      cases e with
      | normal =>
        obtain ⟨hkfa, hkpa, hbody⟩ := hpost
        have hl2 := hkfa.same _ _ (by omega) hl rfl
        have hk2 := hkfa.same _ _ (Nat.le_refl _) hk rfl
        have hlt : w.heap.size + 1 < Wa.heap.size := (Array.getElem?_eq_some_iff.1 hl2).1
        refine ⟨_, run_beginRound hl2 (by rw [hrec]), ?_⟩
        have hl3 : (Wa.putObj (w.heap.size + 1) (.loop { rec .ready none with state := .busy })).heap[w.heap.size + 1]? = some (.loop { rec .ready none with state := .busy }) := World.putObj_heap_same hlt
        have hk3 : (Wa.putObj (w.heap.size + 1) (.loop { rec .ready none with state := .busy })).heap[w.heap.size]? = some (.deferred (some [])) := (World.putObj_heap_other (by omega)).trans hk2
        have hw2 : Kp Wa (Wa.putObj (w.heap.size + 1) (.loop { rec .ready none with state := .busy })) := hKb _ _ _ _ (by omega) hl2 rfl
        refine wpIn_mono (hbody _ _ hl2 rfl rfl) ?_
        have fin : ∀ (jump : Option Code) (W3 : World), KeepsFrom w.heap.size (Wa.putObj (w.heap.size + 1) (.loop { rec .ready none with state := .busy })) W3 →
            (Instr.endRound (w.heap.size + 1) jump).run P W3 = .ok (.bool jump.isNone) (W3.putObj (w.heap.size + 1) (.loop (rec (if jump.isNone then .ready else .done) jump))) ∧
            W3.heap[w.heap.size + 1]? = some (.loop { rec .ready none with state := .busy }) ∧
            (W3.putObj (w.heap.size + 1) (.loop (rec (if jump.isNone then .ready else .done) jump))).heap[w.heap.size + 1]? = some (.loop (rec (if jump.isNone then .ready else .done) jump)) ∧
            (W3.putObj (w.heap.size + 1) (.loop (rec (if jump.isNone then .ready else .done) jump))).heap[w.heap.size]? = some (.deferred (some [])) := fun jump W3 hk4 => by
          have hl4 := hk4.same _ _ (by omega) hl3 rfl
          have := run_endRound (P := P) jump hl4
          rw [hrec] at this ⊢
          exact ⟨this, by rw [hrec] at hl4; exact hl4, World.putObj_heap_same (Array.getElem?_eq_some_iff.1 hl4).1, (World.putObj_heap_other (by omega)).trans (hk4.same _ _ (Nat.le_refl _) hk3 rfl)⟩
        rintro e a3 W3 hp
        cases e with
        | normal =>
          obtain ⟨hk4, hkp4, hi4⟩ := hp
          obtain ⟨hr, hl5, hl6, hk6⟩ := fin none W3 hk4
          exact ⟨_, _, hr, .inl ⟨rfl, ⟨hI _ _ _ _ _ (by omega) hi4 hl5 rfl rfl, hl6, hk6⟩, hKt hkpa (hKt (hKt hw2 hkp4) (hKb _ _ _ _ (by omega) hl5 rfl))⟩⟩
        | ret =>
          obtain ⟨hk4, hi4⟩ := hp
          obtain ⟨hr, hl5, hl6, hk6⟩ := fin (some .ret) W3 hk4
          exact ⟨_, _, hr, .inr ⟨rfl, .ret, hIx _ _ _ _ _ (by omega) hi4 hl5 rfl rfl, hl6, hk6⟩⟩
        | exit id =>
          obtain ⟨hk4, hi4⟩ := hp
          obtain ⟨hr, hl5, hl6, hk6⟩ := fin (some (.exit id)) W3 hk4
          exact ⟨_, _, hr, .inr ⟨rfl, .exit id, hIx _ _ _ _ _ (by omega) hi4 hl5 rfl rfl, hl6, hk6⟩⟩
        | goto t => exact hp.elim
        | panic ch => exact hp.elim
        | outgrown => exact hp.elim
      | exit id => exact hpost.elim
      | goto t => exact hpost.elim
      | ret => exact hpost.elim
      | panic ch => exact hpost.elim
      | outgrown => exact hpost.elim
    · rintro e W2 ⟨⟨v, rfl⟩, (⟨hi, hl, hk⟩ | ⟨_, c, hi, hl, hk⟩)⟩
      · exact ⟨none, _, by have := run_endLoop (P := P) hl (by rw [hrec]; simp); rw [hrec] at this; exact this, hdone _ _ (Nat.le_refl _) (hI _ _ _ _ _ (by omega) hi hl rfl rfl) ((World.putObj_heap_other (by omega)).trans hk)⟩
      · exact ⟨some c, _, by have := run_endLoop (P := P) hl (by rw [hrec]; simp); rw [hrec] at this; exact this, hstop _ c _ (Nat.le_refl _) (hIx _ _ _ _ _ (by omega) hi hl rfl rfl) ((World.putObj_heap_other (by omega)).trans hk)⟩
end
end Go.Vq
namespace Go.Vq
section
variable {P : Program} {n base m : Nat} {E E' E0 : Env} {σ σ' σ0 : St} {ts ts' : List Value} {H H' H0 : Array Go.Obj} {ids os : List Nat} {keep : Option (List Nat)}
theorem stab1_leaf {u : V} (h : u.leaf = true) : (stab1 ids u).leaf = true := by
  cases u <;> first
    | (simp [V.leaf] at h; done)
    | rfl
    | (simp only [stab1]; split <;> rfl)
    | (rename_i r; cases r <;> first | rfl | (simp only [stab1]; split <;> rfl))
theorem stab1_refs {u : V} : (stab1 ids u).refs1 = [] := by
  cases u <;> first
    | rfl
    | (simp only [stab1]; split <;> rfl)
    | (rename_i r; cases r <;> first | rfl | (simp only [stab1]; split <;> rfl))
theorem stab1_rel {slots0 slots : List V} {objs0 objs : List (Option Obj)} {vals0 vals : List Value} {h h' : Home} {u : V} {y : Value} (hm : ∀ b i, E0.imm b i → E.imm b i ∧ cellAt H b i = cellAt H0 b i)
    (ha : ∀ o, ids.contains o = true → alive objs0 o → E.addr o = E0.addr o ∧ alive objs o) (hR : RelV E0 slots0 objs0 vals0 H0 h u y) : RelV E slots objs vals H h' (stab1 ids u) y := by
  cases u <;> first | exact hR.elim | skip
  case srf => trivial
  case xsl => trivial
  case fsl => trivial
  case asl => trivial
  case gone => trivial
  case ptr r =>
    cases r with
    | obj o off =>
      simp only [stab1]
      split
      · rename_i hi
        obtain ⟨e1, e2⟩ := ha o hi hR.2
        refine ⟨?_, e2⟩
        rw [e1]; exact hR.1
      · trivial
    | elem => trivial
  case map o =>
    simp only [stab1]
    split
    · rename_i hi
      obtain ⟨e1, e2⟩ := ha o hi hR.2
      refine ⟨?_, e2⟩
      rw [e1]; exact hR.1
    · trivial
  case func f cs =>
    simp only [stab1]
    split
    · rename_i hi
      exact RelC.mono hm hR fun o ho hal => ha o (List.all_eq_true.1 hi o ho) hal
    · trivial
  case isl g sz es =>
    simp only [RelV, stab1] at hR ⊢
    have : RelI E0.imm H0 (.isl 0 sz es) y := by
      cases hR with
      | isl _ _ _ a cap xs hc ha hsp hz hx h => exact .isl _ _ _ a cap xs hc ha hsp hz hx h
    exact this.mono hm
  case csl sz es => exact ⟨hR.1.mono hm, hR.2⟩
  case iptr cs =>
    obtain ⟨ad, h1, hs, h2⟩ := hR
    refine ⟨ad, h1, hs, fun j v hj => ?_⟩
    obtain ⟨e0, z, e1, e2, e3⟩ := h2 j v hj
    exact ⟨e0, z, (hm _ _ e1).1, (hm _ _ e1).2.trans e2, e3.mono hm⟩
  all_goals exact RelI.mono hm hR
theorem stabSlots_get : ∀ (vs : List V) (j i : Nat), (stabSlots keep ids j vs)[i]? = (vs[i]?).map fun v => if ((keep.getD []).contains (j + i) || keep.isNone) = true then v.withLeaves (v.leaves.map (stab1 ids)) else .gone 0
  | [], j, i => by simp [stabSlots]
  | v :: vs, j, 0 => by simp [stabSlots]
  | v :: vs, j, i + 1 => by
    simp only [stabSlots, List.getElem?_cons_succ]
    rw [stabSlots_get vs (j + 1) i, show j + 1 + i = j + (i + 1) by omega]
theorem stabSlots_len : ∀ (vs : List V) (j : Nat), (stabSlots keep ids j vs).length = vs.length
  | [], j => rfl
  | v :: vs, j => by simp [stabSlots, stabSlots_len]
theorem idsBut_mem {o : Nat} (h : (idsBut m σ).contains o = true) : o < m ∧ alive σ.objs o := by
  have h' : o ∈ idsBut m σ := by simpa using h
  unfold idsBut at h'
  obtain ⟨h1, h2⟩ := List.mem_filter.1 h'
  refine ⟨List.mem_range.1 h1, ?_⟩
  obtain ⟨x, hx⟩ := Option.isSome_iff_exists.1 h2
  exact ⟨x, obj_some hx⟩
theorem range_core (hC0 : CoreS n E0 σ0 [] ts [] H0) (hC : CoreS n E σ [] ts' [] H) (hm : ∀ b i, E0.imm b i → E.imm b i ∧ cellAt H b i = cellAt H0 b i) (hA : ∀ o, o < m → E.addr o = E0.addr o) :
    CoreS n E (rangeSt keep m σ0.slots σ) [] ts [] H ∧ ∀ v ∈ (rangeSt keep m σ0.slots σ).slots, v.refs = [] := by
  have h0 := hC0.core
  simp only [List.append_nil] at h0
  obtain ⟨ids, hids⟩ : ∃ ids, ids = idsBut m σ := ⟨_, rfl⟩
  have hR := (reb_sound (keep := []) (ids := ids) hC).core
  simp only [List.append_nil] at hR
  have hobjs : (rangeSt keep m σ0.slots σ).objs = (rebSt [] ids σ).objs := by rw [hids]; rfl
  have hslots : (rangeSt keep m σ0.slots σ).slots = stabSlots keep ids 0 σ0.slots := by rw [hids]; rfl
  have hsl : (rangeSt keep m σ0.slots σ).slots.length = n := by rw [hslots, stabSlots_len]; exact hC0.sl
  have hal : ∀ o, ids.contains o = true → alive σ0.objs o → E.addr o = E0.addr o ∧ alive (rebSt [] ids σ).objs o := by
    intro o ho _
    have h := idsBut_mem (hids ▸ ho)
    exact ⟨hA o h.1, reb_alive h.2 ho⟩
  have hget : ∀ (s : Nat) (v' : V), (rangeSt keep m σ0.slots σ).slots[s]? = some v' → ∃ v, σ0.slots[s]? = some v ∧ (v' = v.withLeaves (v.leaves.map (stab1 ids)) ∨ v' = .gone 0) := by
    intro s v' hv'
    rw [hslots, stabSlots_get] at hv'
    obtain ⟨v, hv, e⟩ := Option.map_eq_some_iff.1 hv'
    refine ⟨v, hv, ?_⟩
    split at e
    · exact .inl e.symm
    · exact .inr e.symm
  have hlv : ∀ (s : Nat) (v : V), σ0.slots[s]? = some v → (v.withLeaves (v.leaves.map (stab1 ids))).leaves = v.leaves.map (stab1 ids) ∧ v.formed ∧ ∀ u ∈ v.leaves.map (stab1 ids), u.leaf = true := by
    intro s v hv
    obtain ⟨x, hx⟩ := exists_getElem? (l := ts) (i := s) (by have := lt_of_getElem? hv; rw [hC0.tl, ← hC0.sl]; exact this)
    have hS := h0.slot s v x hv hx
    have hlf : ∀ u ∈ v.leaves.map (stab1 ids), u.leaf = true := by
      intro u hu
      obtain ⟨u0, hu0, rfl⟩ := List.mem_map.1 hu
      exact stab1_leaf (hS.leafs u0 hu0)
    exact ⟨withLeaves_leaves hS.formed (by simp) hlf, hS.formed, hlf⟩
  have hrefs : ∀ (s : Nat) (v' : V), (rangeSt keep m σ0.slots σ).slots[s]? = some v' → v'.refs = [] := by
    intro s v' hv'
    obtain ⟨v, hv, rfl | rfl⟩ := hget s v' hv'
    · obtain ⟨l1, _, _⟩ := hlv s v hv
      rw [refs_of_leaves l1, List.flatMap_eq_nil_iff]
      intro u hu
      obtain ⟨u0, _, rfl⟩ := List.mem_map.1 hu
      exact stab1_refs
    · simp [V.refs, V.leaves, V.refs1]
  refine ⟨⟨hsl, hC0.tl, ?_⟩, fun v hv => by obtain ⟨s, hs⟩ := List.mem_iff_getElem?.1 hv; exact hrefs s v hs⟩
  simp only [List.append_nil]
  refine ⟨by rw [hsl, hC0.tl], by rw [hsl]; exact Nat.le_refl _, fun s v' x hv' hx => ?_, fun o cs' ho' => ?_, hR.fresh, fun s v' hv' q hq => by rw [hrefs s v' hv'] at hq; cases hq⟩
  · obtain ⟨v, hv, rfl | rfl⟩ := hget s v' hv'
    · have hS := h0.slot s v x hv hx
      obtain ⟨l1, l2, l3⟩ := hlv s v hv
      refine ⟨?_, fun i u y hu hy => ?_⟩
      · by_cases hg : ∃ g, v = .gone g
        · obtain ⟨g, rfl⟩ := hg; trivial
        · exact withLeaves_shape l2 (by simp) l3 hS.1 (fun g e => hg ⟨g, e⟩)
      · rw [l1, List.getElem?_map] at hu
        obtain ⟨u0, hu0, rfl⟩ := Option.map_eq_some_iff.1 hu
        rw [hobjs]
        exact stab1_rel hm hal (hS.2 i u0 y hu0 hy)
    · exact ⟨trivial, fun i u y hu _ => by
        cases i with
        | zero => simp [V.leaves] at hu; subst hu; trivial
        | succ i => simp [V.leaves] at hu⟩
  · rw [hobjs] at ho' ⊢
    obtain ⟨arr, T, f, g1, g2, g3, g4, g5, g6⟩ := hR.obj o cs' ho'
    refine ⟨arr, T, f, g1, g2, g3, g4, fun i u y hu hy => ?_, g6⟩
    refine (g5 i u y hu hy).move (fun _ _ h => ⟨h, rfl⟩) (fun _ b hb => ⟨hb, rfl⟩) (fun _ b k hb => ⟨hb, rfl⟩) (fun o _ h => ⟨rfl, h⟩) (fun o _ _ _ h => ⟨rfl, h⟩) fun r hr => ?_
    rw [V.inObj_refs1 (g6 u (List.mem_of_getElem? hu))] at hr; cases hr
def Env.clear (E : Env) (B : Nat) (H : Array Go.Obj) : Env := { E with tag := fun b => if b < B ∨ ∃ o, H[b]? = some o ∧ o.isCells = true then E.tag b else .other }
theorem clear_core {B : Nat} (hC : CoreS n E σ [] ts [] H) (hs : H.size ≤ H'.size) (hk : ∀ b o, H[b]? = some o → (b < B ∨ o.isCells = true) → H'[b]? = some o) (hB : B ≤ H.size) :
    CoreS n (E.clear B H) σ [] ts [] H' := by
  have h0 := hC.core
  simp only [List.append_nil] at h0
  refine ⟨hC.sl, hC.tl, ?_⟩
  simp only [List.append_nil]
  have htag : ∀ {b : Nat} {c : Array Value} {T : TypeId} {f : Nat × Nat}, H[b]? = some (.cells c T f) → (E.clear B H).tag b = E.tag b := by
    intro b c T f h
    unfold Env.clear
    simp only
    rw [if_pos (.inr ⟨_, h, rfl⟩)]
  have hcell : ∀ {b i : Nat} {x : Value}, cellAt H b i = some x → ∃ c T f, H[b]? = some (.cells c T f) := by
    intro b i x h
    unfold cellAt at h
    split at h
    · exact ⟨_, _, _, by assumption⟩
    · cases h
  have hsame : ∀ {b : Nat} {c : Array Value} {T : TypeId} {f : Nat × Nat}, H[b]? = some (.cells c T f) → H'[b]? = some (.cells c T f) := fun h => hk _ _ h (.inr rfl)
  have hcell' : ∀ {b i : Nat} {x : Value}, cellAt H b i = some x → cellAt H' b i = some x := by
    intro b i x h
    obtain ⟨c, T, f, hc⟩ := hcell h
    unfold cellAt at h ⊢
    rw [hsame hc]; rw [hc] at h; exact h
  have himm : ∀ {b i : Nat} {x : Value}, E.imm b i → cellAt H b i = some x → (E.clear B H).imm b i := by
    intro b i x h hc
    obtain ⟨c, T, f, hb⟩ := hcell hc
    unfold Env.imm at h ⊢
    rw [htag hb]; exact h
  have hI : ∀ {u : V} {y : Value}, RelI E.imm H u y → RelI (E.clear B H).imm H' u y := by
    intro u y h
    induction h with
    | bool b => exact .bool b
    | int k n => exact .int k n
    | str s => exact .str s
    | nil => exact .nil
    | nilf => exact .nilf
    | nilm => exact .nilm
    | nili => exact .nili
    | nilS sz => exact .nilS sz
    | iface t v x hp _ ih => exact .iface t v x hp ih
    | agg cs xs hn _ ih => exact .agg cs xs hn ih
    | isl g sz es a cap xs hc ha hsp hz hx _ ih =>
      refine .isl g sz es a cap xs hc ha hsp hz (fun ad i e j v h1 h2 h3 => ?_) ih
      obtain ⟨p, q⟩ := hx ad i e j v h1 h2 h3
      exact ⟨himm p q, hcell' q⟩
  have hE : ∀ {a : Option Addr} {sz : Nat} {es : List V}, Elems E.imm H a sz es → Elems (E.clear B H).imm H' a sz es := by
    intro a sz es h
    refine ⟨h.1, fun i e j v h1 h2 => ?_⟩
    obtain ⟨ad, x, e1, e2, e3⟩ := h.2 i e j v h1 h2
    exact ⟨ad, x, e1, hcell' e2, hI e3⟩
  have hRC : ∀ {u : V} {y : Value}, RelC E σ.objs H u y → RelC (E.clear B H) σ.objs H' u y := by
    intro u y h
    induction h with
    | imm v x h hl => exact .imm v x (hI h) hl
    | ptr o off hl => exact .ptr (E := E.clear B H) o off hl
    | map o hl => exact .map (E := E.clear B H) o hl
    | iptr cs ad hs h =>
      refine .iptr cs ad hs fun j v hj => ?_
      obtain ⟨e0, y, e1, e2, e3⟩ := h j v hj
      exact ⟨e0, y, himm e1 e2, hcell' e2, hI e3⟩
    | func f cs xs hn _ ih => exact .func f cs xs hn ih
  have hhd : ∀ {h : Home} {y : Value}, hd E ts H h = some y → hd (E.clear B H) ts H' h = some y := by
    intro h y hy
    cases h with
    | slot s i => exact hy
    | obj o i => exact hcell' hy
  have hmv : ∀ {h : Home} {u : V} {y : Value}, RelV E σ.slots σ.objs ts H h u y → RelV (E.clear B H) σ.slots σ.objs ts H' h u y := by
    intro h u y hR
    cases u <;> first | exact hR.elim | exact hI hR | trivial | skip
    case xsl g sz es =>
      obtain ⟨a, cap, h1, h2, h3, h4, h5, h6⟩ := hR
      refine ⟨a, cap, h1, h2, h3, h4, fun hc => ?_, hE h6⟩
      obtain ⟨ad, arr, T, f, e1, e2, e3, e4, e5⟩ := h5 hc
      exact ⟨ad, arr, T, f, e1, (htag e3).trans e2, hsame e3, e4, e5⟩
    case fsl g sz es =>
      obtain ⟨a, cap, h1, h2, h3, h4, h5, h6⟩ := hR
      refine ⟨a, cap, h1, h2, h3, h4, fun hc => ?_, hE h6⟩
      obtain ⟨ad, arr, T, f, e1, e2, e3, e4, e5⟩ := h5 hc
      exact ⟨ad, arr, T, f, e1, (htag e3).trans e2, hsame e3, e4, e5⟩
    case csl sz es => exact ⟨hI hR.1, hR.2⟩
    case ptr r =>
      cases r with
      | obj o off => exact hR
      | elem hh g sz i off =>
        obtain ⟨ad', e0, hv⟩ := hR
        refine ⟨ad', e0, fun hvl => ?_⟩
        obtain ⟨ad, l, c, e1, e2⟩ := hv hvl
        exact ⟨ad, l, c, hhd e1, e2⟩
    case srf hh g sz off len =>
      obtain ⟨a', c', e1, e2, e3, e4, hv⟩ := hR
      refine ⟨a', c', e1, e2, e3, e4, fun hvl => ?_⟩
      obtain ⟨a, l, c, f1, f2⟩ := hv hvl
      exact ⟨a, l, c, hhd f1, f2⟩
    case asl r len =>
      cases r with
      | obj o off => exact hR
      | elem hh g sz i off =>
        obtain ⟨ad', c', e1, e2, es, hv⟩ := hR
        refine ⟨ad', c', e1, e2, es, fun hvl => ?_⟩
        obtain ⟨ad, l, c, f1, f2⟩ := hv hvl
        exact ⟨ad, l, c, hhd f1, f2⟩
    case iptr cs =>
      obtain ⟨ad, h1, hs, h2⟩ := hR
      refine ⟨ad, h1, hs, fun j v hj => ?_⟩
      obtain ⟨e0, y, e1, e2, e3⟩ := h2 j v hj
      exact ⟨e0, y, himm e1 e2, hcell' e2, hI e3⟩
    case func f cs => exact hRC hR
  refine ⟨h0.len, h0.real, fun s v x hv hx => ⟨(h0.slot s v x hv hx).1, fun i u y hu hy => hmv ((h0.slot s v x hv hx).2 i u y hu hy)⟩, fun o cs hcs => ?_, fun b hb => ?_, h0.refs⟩
  · obtain ⟨arr, T, f, g1, g2, g3, g4, g5, g6⟩ := h0.obj o cs hcs
    exact ⟨arr, T, f, hsame g1, (htag g1).trans g2, g3, g4, fun i u y hu hy => hmv (g5 i u y hu hy), g6⟩
  · unfold Env.clear
    simp only
    have := h0.fresh b (by omega)
    split
    · exact this
    · rfl
theorem clear_grow {B : Nat} (hf : ∀ b, B ≤ b → E0.tag b = .other) (hG : Grow m E0 H0 E H) (hs : H.size ≤ H'.size) (hk : ∀ b o, H[b]? = some o → (b < B ∨ o.isCells = true) → H'[b]? = some o) (hB : H0.size = B) :
    Grow m E0 H0 (E.clear B H) H' := by
  have hlt : ∀ b, E0.tag b ≠ .other → b < B := fun b h => by
    rcases Nat.lt_or_ge b B with h1 | h1
    · exact h1
    · exact absurd (hf b h1) h
  have htag : ∀ b, b < B → (E.clear B H).tag b = E.tag b := fun b h => by unfold Env.clear; simp only; rw [if_pos (.inl h)]
  have hsame : ∀ b, b < B → H'[b]? = H[b]? := fun b h => by
    have h1 : b < H.size := by have := hG.size; omega
    have h2 : H[b]? = some H[b] := Array.getElem?_eq_getElem h1
    rw [h2]; exact hk b _ h2 (.inl h)
  refine ⟨Nat.le_trans hG.size hs, fun b i h => ?_, fun b hb h => ?_, fun b h => ?_, fun b k h => ?_, fun o ho => hG.addr o ho⟩
  · have hb := hlt b (by intro e; simp [Env.imm, e] at h)
    have := hG.imm b i h
    refine ⟨?_, ?_⟩
    · unfold Env.imm; rw [htag b hb]; exact this.1
    · unfold cellAt; rw [hsame b hb]; exact this.2
  · have := hG.other b hb h
    exact ⟨(htag b (by omega)).trans this.1, (hsame b (by omega)).trans this.2⟩
  · have hb := hlt b (by rw [h]; simp)
    have := hG.immT b h
    exact ⟨(htag b hb).trans this.1, (hsame b hb).trans this.2⟩
  · have hb := hlt b (by rw [h]; simp)
    have := hG.lentT b k h
    exact ⟨(htag b hb).trans this.1, (hsame b hb).trans this.2⟩
def RelE (E : Env) (H : Array Go.Obj) (v : V) (y : Value) : Prop := Shape1 v y ∧ ∀ (j : Nat) (u : V) (z : Value), v.cells[j]? = some u → (vcells y)[j]? = some z → u.leaf = true ∧ RelI E.imm H u z
theorem cells_leaves {v : V} {y : Value} (h : Shape1 v y) : v.leaves = v.cells := by
  cases v <;> first | rfl | exact h.elim
theorem relE_slot {v : V} {y : Value} (h : RelE E H v y) (slots : List V) (objs : List (Option Obj)) (vals : List Value) (s : Nat) : SlotRel E slots objs vals H s v y ∧ v.refs = [] := by
  have hl := cells_leaves h.1
  have hvl : vleaves y = vcells y ∨ v.leaf = true := by
    cases v <;> first | exact .inr rfl | exact h.1.elim | skip
    obtain ⟨xs, rfl, _⟩ := h.1
    exact .inl rfl
  have key : vleaves y = vcells y := by
    rcases hvl with h1 | h1
    · exact h1
    · have hx : aggX y = false := (shape1_leaf h1).1 h.1
      have hc : v.cells = [v] := cells_leaf h1
      have hy := vcells_leaf hx
      have h2 := (h.2 0 v y (by rw [hc]; rfl) (by rw [hy]; rfl)).2
      rw [hy, vleaves_leaf (relI_leafX h2 h1)]
  refine ⟨⟨?_, fun i u z hu hz => ?_⟩, ?_⟩
  · cases v <;> first | exact h.1 | exact h.1.elim | skip
    all_goals
      have hx : aggX y = false := h.1
      have hy := vcells_leaf hx
      have h2 := (h.2 0 _ y rfl (by rw [hy]; rfl)).2
      first | exact relI_leafX h2 rfl | trivial
  · rw [hl] at hu; rw [key] at hz
    obtain ⟨h1, h2⟩ := h.2 i u z hu hz
    exact (relI_rel h2 h1).1 _ _ _ _
  · rw [V.refs, hl, List.flatMap_eq_nil_iff]
    intro u hu
    obtain ⟨i, hi⟩ := List.mem_iff_getElem?.1 hu
    have hlen : i < (vcells y).length := by
      have : (vcells y).length = v.cells.length := by
        cases v <;> first | exact h.1.elim | skip
        case agg cs => obtain ⟨xs, rfl, hn⟩ := h.1; simp [vcells, Value.cells, V.cells, hn]
        all_goals
          have hx : aggX y = false := h.1
          rw [vcells_leaf hx]; rfl
      rw [this]; exact lt_of_getElem? hi
    obtain ⟨z, hz⟩ := exists_getElem? hlen
    obtain ⟨h1, h2⟩ := h.2 i u z hi hz
    exact (relI_rel h2 h1).2.2
theorem set_core (hC : CoreS n E σ [] ts [] H) (hn : ∀ v ∈ σ.slots, v.refs = []) {p : Nat} {v : V} {y : Value} (hv : RelE E H v y) :
    CoreS n E { σ with slots := σ.slots.set p v } [] (ts.set p y) [] H ∧ ∀ u ∈ σ.slots.set p v, u.refs = [] := by
  have h0 := hC.core
  simp only [List.append_nil] at h0
  have hnr : ∀ u ∈ σ.slots.set p v, u.refs = [] := fun u hu => by
    rcases List.mem_or_eq_of_mem_set hu with h | rfl
    · exact hn u h
    · exact (relE_slot hv [] [] [] 0).2
  refine ⟨⟨by simpa using hC.sl, by simpa using hC.tl, ?_⟩, hnr⟩
  simp only [List.append_nil]
  refine ⟨by simpa using h0.len, by simpa using h0.real, fun s u x hu hx => ?_, fun o cs hcs => ?_, h0.fresh, fun s u hu q hq => by rw [hnr u (List.mem_of_getElem? hu)] at hq; cases hq⟩
  · by_cases hp : p = s
    · subst hp
      have h1 : p < σ.slots.length := by have := lt_of_getElem? hu; simpa using this
      have h2 : p < ts.length := by have := lt_of_getElem? hx; simpa using this
      rw [List.getElem?_set_self h1] at hu
      rw [List.getElem?_set_self h2] at hx
      cases hu; cases hx
      exact (relE_slot hv _ _ _ _).1
    · rw [List.getElem?_set_ne hp] at hu hx
      have hS := h0.slot s u x hu hx
      refine ⟨hS.1, fun i z y hz hy => (hS.2 i z y hz hy).move (fun _ _ h => ⟨h, rfl⟩) (fun _ b hb => ⟨hb, rfl⟩) (fun _ b k hb => ⟨hb, rfl⟩) (fun o _ h => ⟨rfl, h⟩) (fun o _ _ _ h => ⟨rfl, h⟩) fun r hr => ?_⟩
      have := hn u (List.mem_of_getElem? hu)
      rw [V.refs, List.flatMap_eq_nil_iff] at this
      rw [this z (List.mem_of_getElem? hz)] at hr; cases hr
  · obtain ⟨arr, T, f, g1, g2, g3, g4, g5, g6⟩ := h0.obj o cs hcs
    refine ⟨arr, T, f, g1, g2, g3, g4, fun i u y hu hy => ?_, g6⟩
    refine (g5 i u y hu hy).move (fun _ _ h => ⟨h, rfl⟩) (fun _ b hb => ⟨hb, rfl⟩) (fun _ b k hb => ⟨hb, rfl⟩) (fun o _ h => ⟨rfl, h⟩) (fun o _ _ _ h => ⟨rfl, h⟩) fun r hr => ?_
    rw [V.inObj_refs1 (g6 u (List.mem_of_getElem? hu))] at hr; cases hr
end
end Go.Vq
namespace Go.Vq
theorem wpIn_any {ro : Option Nat} {n m : Nat} {P : Program} {c : Code} {Q : Exit → Act → World → Prop} {a : Act} {w : World} (h : c.wpIn (Fw ro) n P Q a w) : c.wpIn (Fw ro) m P Q a w :=
  fun b k cs h1 h2 _ => h b k cs h1 h2 (fun _ h => by cases h)
theorem wpIn_loop_fuel {F : Fence} {n : Nat} {P : Program} {Q : Exit → Act → World → Prop} {a : Act} {w : World} {c : Code} {m : Nat} (J : Nat → Act → World → Prop) (h₀ : J m a w)
    (round : ∀ m a w, J m a w → c.wpIn F n P (Exit.then (fun a' w' => ∃ m', m' < m ∧ J m' a' w') Q) a w) : (Code.loop c).wpIn F n P Q a w := by
  intro b k cs hro hb hr
  have key : ∀ j a w, J j a w →
      ∃ e a' w', Q e a' w' ∧ ArrivesIn (Machine.fenced P F) P (lone (b.atR a (.code c :: .inLoop c :: k)) cs w) b k cs e a' w' := by
    intro j
    induction j using Nat.strongRecOn with
    | _ j ih =>
      intro a w hI
      obtain ⟨e, a₁, w₁, hq, harr⟩ := round j a w hI b (.inLoop c :: k) cs hro hb hr
      cases e with
      | normal =>
        obtain ⟨m', hlt, hI₁⟩ := hq
        obtain ⟨e₂, a₂, w₂, hq₂, harr₂⟩ := ih m' hlt a₁ w₁ hI₁
        exact ⟨e₂, a₂, w₂, hq₂, .of_steps (StepsIn.trans harr (.one (fenced_calm hb hr rfl) stepR_inLoop)) harr₂⟩
      | exit id => exact ⟨_, a₁, w₁, hq, .pass (x := .inLoop c) rfl (fun _ _ => .inl (by simp)) harr⟩
      | goto l => exact ⟨_, a₁, w₁, hq, .pass (x := .inLoop c) rfl (fun _ _ => .inl (by simp)) harr⟩
      | ret => exact ⟨_, a₁, w₁, hq, .pass (x := .inLoop c) rfl (fun _ _ => .inl (by simp)) harr⟩
      | panic ch => exact ⟨_, a₁, w₁, hq, .pass (x := .inLoop c) rfl (fun _ _ => .inl (by simp)) harr⟩
      | outgrown => exact ⟨_, a₁, w₁, hq, .pass (x := .inLoop c) rfl (fun _ _ => .inl (by simp)) harr⟩
  obtain ⟨e, a', w', hq, harr⟩ := key _ a w h₀
  exact ⟨e, a', w', hq, .of_steps (.one (fenced_calm hb hr rfl) stepR_loop) harr⟩
theorem stepR_scope {P : Program} {b : Frame} {a : Act} {k : List Item} {cs : List Frame} {w : World} {c : Code} : Go.step P (lone (b.atR a (.code (.scope c) :: k)) cs w) = .next (lone (b.atR a (.code c :: .inScope c :: k)) cs w) :=
  step_lone_go (by simp [stepG, stepG.exec, Frame.atR])
theorem stepR_inScope {P : Program} {b : Frame} {a : Act} {k : List Item} {cs : List Frame} {w : World} {c : Code} : Go.step P (lone (b.atR a (.inScope c :: k)) cs w) = .next (lone (b.atR a k) cs w) :=
  step_lone_go (by simp [stepG, stepG.exec, Frame.atR])
theorem wpIn_scope {F : Fence} {n : Nat} {P : Program} {Q : Exit → Act → World → Prop} {a : Act} {w : World} {c : Code} (h : c.wpIn F n P (Exit.noGoto Q) a w) : (Code.scope c).wpIn F n P Q a w := by
  intro b k cs hro hb hr
  have h0 : (lone (b.atR a (.code (.scope c) :: k)) cs w).fenced P F := fenced_calm hb hr rfl
  obtain ⟨e, a₁, w₁, hq, harr⟩ := h b (.inScope c :: k) cs hro hb hr
  cases e with
  | normal => exact ⟨.normal, a₁, w₁, hq, .head h0 stepR_scope (StepsIn.trans harr (.one (fenced_calm hb hr rfl) stepR_inScope))⟩
  | exit id =>
    have hx : exitTo id (.inScope c :: k) = exitTo id k := by simp [exitTo]
    exact ⟨.exit id, a₁, w₁, hq, fun k' hk => .head h0 stepR_scope (harr.1 k' (by rw [hx]; exact hk)),
        fun hr' hk => let ⟨k₁, h1, h2⟩ := harr.2 hr' (by rw [hx]; exact hk); ⟨k₁, h1, .head h0 stepR_scope h2⟩⟩
  | goto l => exact hq.elim
  | ret => exact ⟨_, a₁, w₁, hq, .of_steps (.one h0 stepR_scope) harr⟩
  | panic ch => exact ⟨_, a₁, w₁, hq, .of_steps (.one h0 stepR_scope) harr⟩
  | outgrown => exact ⟨_, a₁, w₁, hq, .of_steps (.one h0 stepR_scope) harr⟩
def Out.exit' : Out → Exit
  | .normal => .normal
  | .exit id => .exit id
  | .ret => .ret
def Marks (B : Nat) (E : Env) (ds ds' : List Deferred) (H : Array Go.Obj) : Prop :=
  ∃ ms : List Nat, ds' = ms.map (fun D => { target := .collected D, args := #[] }) ++ ds ∧ ms.Nodup ∧ ∀ D ∈ ms, B ≤ D ∧ E.tag D = .other ∧ H[D]? = some (.deferred (some []))
theorem Marks.refl {B : Nat} {E : Env} {ds ds' : List Deferred} {H : Array Go.Obj} (h : ds' = ds) : Marks B E ds ds' H := ⟨[], by simpa using h, List.nodup_nil, fun _ h => by cases h⟩
theorem Marks.trans {base B : Nat} {E1 E2 : Env} {ds ds1 ds2 : List Deferred} {H1 H2 : Array Go.Obj} (h : Marks B E1 ds ds1 H1) (hG : Grow base E1 H1 E2 H2) (h' : Marks H1.size E2 ds1 ds2 H2) (hB : B ≤ H1.size) : Marks B E2 ds ds2 H2 := by
  obtain ⟨m1, rfl, n1, p1⟩ := h
  obtain ⟨m2, rfl, n2, p2⟩ := h'
  have hlt : ∀ D ∈ m1, D < H1.size := fun D hD => (Array.getElem?_eq_some_iff.1 (p1 D hD).2.2).1
  refine ⟨m2 ++ m1, by simp, List.nodup_append.2 ⟨n2, n1, fun x hx y hy e => ?_⟩, fun D hD => ?_⟩
  · subst e; have := hlt x hy; have := (p2 x hx).1; omega
  · rcases List.mem_append.1 hD with h | h
    · exact ⟨Nat.le_trans hB (p2 D h).1, (p2 D h).2⟩
    · have := hG.other D (hlt D h) (p1 D h).2.1
      exact ⟨(p1 D h).1, this.1, this.2.trans (p1 D h).2.2⟩
def NextD (n base : Nat) (E : Env) (σ' : St) (a : Act) (w : World) (next : Act → World → Prop) : Prop :=
  ∀ (E' : Env) (a' : Act) (w' : World), CoreS n E' σ' [] a'.tmps.toList [] w'.heap → Grow base E w.heap E' w'.heap → WSame w w' → Marks w.heap.size E' a.defers a'.defers w'.heap → next a' w'
structure IterOk (P : Program) (g : FuncId) (run : Iter) : Prop where
  enter : EnterOk P g
  gives : ∀ (bs xs : List (List V)) (ar : Nat), run bs = some (ar, xs) → ∀ (E : Env) (lb : Array Value) (w : World), bs.length = lb.size →
    (∀ (i : Nat) (cs : List V), bs[i]? = some cs → ∃ ad : Addr, lb[i]? = some (.pointer (some ad)) ∧ ad.spot = none ∧ ∀ (j : Nat) (u : V), cs[j]? = some u → ∃ y, E.imm ad.block (ad.off + j) ∧ cellAt w.heap ad.block (ad.off + j) = some y ∧ RelI E.imm w.heap u y) →
    ∃ enc : Nat → Array Value, (∀ (k : Nat) (x : List V), xs[k]? = some x → x.length = ar ∧ (enc k).size = ar ∧ ∀ (j : Nat) (v : V) (y : Value), x[j]? = some v → (enc k)[j]? = some y → RelE E w.heap v y) ∧
      ∀ Kp : World → World → Prop, (∀ A B C, Kp A B → Kp B C → Kp A C) → (∀ A B, Kp A B → ∀ b i, E.imm b i → cellAt B.heap b i = cellAt A.heap b i) → (∀ A, Kp A A.drew) → IterGives (Fw none) 4 P g lb enc xs.length Kp w
section
variable {P : Program} {n base : Nat} {E E' E2 : Env} {σ σ' : St} {hs : List V} {ts xs : List Value} {H H' H2 : Array Go.Obj}
variable {a : Act} {w : World} {G : VProg}
theorem NextD.of {next : Act → World → Prop} (K : NextD n base E σ' a w next) : NextOk n base E σ' a w next := fun E' a' w' h1 h2 h3 h4 => K E' a' w' h1 h2 h3 (.refl h4)
theorem condV_sound {c : Operand} {c' : Opd} {b : Bool} (hC : CoreS n E σ [] a.tmps.toList [] w.heap) (hc : opd0 c = some c') (h : condV c' σ = some b) : a.eval c = .bool b := by
  have hr : (gBool c' fun b' => if b' = b then .ret else .fail).run σ = some σ := by
    cases c' with
    | tmp t =>
      simp only [condV] at h
      split at h
      · rename_i b' hb
        cases h
        simp only [gBool, gOpd, Prog.run, hb, if_true]
      · cases h
    | val v =>
      cases v <;> simp only [condV, Option.some.injEq, reduceCtorEq] at h
      subst h
      simp only [gBool, gOpd, if_true, Prog.run]
  obtain ⟨b', h1, h2⟩ := gBool_sound hC (opd0_ok a hc) hr
  by_cases e : b' = b
  · subst e; exact h1
  · rw [if_neg e] at h2; cases h2
theorem bad_run {site m : Nat} {vc : VCode} {callee : Callee} {its : FuncId → Iter} {again : Nat → VCode → St → Option (Out × St)} {σ σ' : St} {out : Out} (hc : some (site, VCode.bad) = some (m, vc.strip)) (hr : step callee its again base vc σ = some (out, σ')) : False := by
  simp only [Option.some.injEq, Prod.mk.injEq] at hc
  cases vc <;> simp only [VCode.strip, reduceCtorEq, and_false] at hc
  simp only [step] at hr
  cases hr
end
end Go.Vq
