/- A machine of values and its tie to the model, and runs of it: part 8 of 14 (no law of Go is stated here). -/
import Derived.Test.YtigbpkocmklbpaaF7
import Derived.RangeFuncLeaves
import Derived.RowKit3
import Derived.ProofKit
import Derived.OpenShut
import Derived.Still
import Derived.OrdersIn
import Derived.KernelRfl
set_option linter.unusedVariables false
set_option linter.unusedSimpArgs false
set_option linter.unusedSectionVars false
namespace Go.Vq
open Go.RowKit
section
variable {P : Program} {n base m : Nat} {E E' E2 : Env} {σ σ' : St} {hs : List V} {ts xs : List Value} {H H' H2 : Array Go.Obj}
variable {a : Act} {w : World} {G : VProg}
theorem Grow.less {base m : Nat} (h : Grow m E H E' H') (hb : base ≤ m) : Grow base E H E' H' := ⟨h.size, h.imm, h.other, h.immT, h.lentT, fun o ho => h.addr o (by omega)⟩
theorem pfold_sets : ∀ (l : List (Nat × Value)) (t : Array Value), (l.foldl (fun t p => t.setIfInBounds p.1 p.2) t).toList = l.foldl (fun t p => t.set p.1 p.2) t.toList
  | [], t => rfl
  | p :: l, t => by simp only [List.foldl_cons]; rw [pfold_sets l]; simp
theorem pfold_sets2 (ps : Array Nat) (vs : Array Value) (t : Array Value) : ((ps.zip vs).foldl (fun t (p, v) => t.setIfInBounds p v) t).toList = (ps.toList.zip vs.toList).foldl (fun t p => t.set p.1 p.2) t.toList := by
  rw [← pfold_sets, ← Array.foldl_toList, Array.toList_zip]
theorem setPs_core : ∀ (ps : List Nat) (x : List V) (y : List Value) {σ : St} {ts : List Value}, CoreS n E σ [] ts [] H → (∀ v ∈ σ.slots, v.refs = []) → y.length = x.length → (∀ (j : Nat) (v : V) (z : Value), x[j]? = some v → y[j]? = some z → RelE E H v z) →
    CoreS n E (setPs ps x σ) [] ((ps.zip y).foldl (fun t p => t.set p.1 p.2) ts) [] H
  | [], x, y, σ, ts, hC, _, _, _ => by simpa [setPs] using hC
  | p :: ps, [], y, σ, ts, hC, _, hl, _ => by
    have : y = [] := List.eq_nil_of_length_eq_zero (by simpa using hl)
    subst this; simpa [setPs] using hC
  | p :: ps, v :: x, [], σ, ts, hC, _, hl, _ => by simp at hl
  | p :: ps, v :: x, z :: y, σ, ts, hC, hn, hl, hr => by
    obtain ⟨h1, h2⟩ := set_core (p := p) hC hn (hr 0 v z rfl rfl)
    have := setPs_core ps x y h1 h2 (by simpa using hl) fun j v z hv hz => hr (j + 1) v z (by simpa using hv) (by simpa using hz)
    simpa [setPs] using this
theorem boxesOf_ok : ∀ {caps : List V} {bs : List (List V)}, boxesOf caps = some bs → caps = bs.map .iptr
  | [], bs, h => by
    simp only [boxesOf, Option.some.injEq] at h
    subst h; rfl
  | c :: caps, bs, h => by
    unfold boxesOf at h
    split at h
    · simp at *
    · rename_i vs cs heq
      cases heq
      obtain ⟨bs', h1, rfl⟩ := Option.map_eq_some_iff.1 h
      rw [boxesOf_ok h1]; rfl
    · cases h
theorem clear_other {B b : Nat} {o : Go.Obj} (hB : B ≤ b) (h : H[b]? = some o) (ho : o.isCells = false) : (E.clear B H).tag b = .other := by
  unfold Env.clear
  simp only
  rw [if_neg]
  rintro (h1 | ⟨o', h1, h2⟩)
  · omega
  · rw [h] at h1; cases h1; rw [ho] at h2; cases h2
theorem turn_core {E0 Ek : Env} {W : World} (hC : CoreS n Ek σ [] ts [] W.heap) (hG : Grow m E0 w.heap Ek W.heap) (hf : ∀ b, w.heap.size ≤ b → E0.tag b = .other) {l : Nat} {o o' : Go.Obj} (hl : w.heap.size ≤ l) (ho : W.heap[l]? = some o) (hoc : o.isCells = false) :
    CoreS n (Ek.clear w.heap.size W.heap) σ [] ts [] (W.putObj l o').heap ∧ Grow m E0 w.heap (Ek.clear w.heap.size W.heap) (W.putObj l o').heap := by
  have hk : ∀ (b : Nat) (x : Go.Obj), W.heap[b]? = some x → (b < w.heap.size ∨ x.isCells = true) → (W.putObj l o').heap[b]? = some x := by
    intro b x hb hx
    refine (World.putObj_heap_other ?_).trans hb
    rintro rfl
    rcases hx with h | h
    · omega
    · rw [ho] at hb; cases hb; rw [hoc] at h; cases h
  exact ⟨clear_core hC (by simp) hk hG.size, clear_grow hf hG (by simp) hk rfl⟩
theorem range_sound {gop : Operand} {x : Opd} (hx : opd0 gop = some x) {site : Nat} {keep : Option (List Nat)} {ps : Array Tmp} {asg bod : Code} {stA stB : St → Option (Out × St)} {its : FuncId → Iter}
    (hits : ∀ g bs ar xs, its g bs = some (ar, xs) → ∃ run, IterOk P g run ∧ run bs = some (ar, xs))
    (hA : ∀ {l : Nat} {σ1 σ2 : St} {out : Out} {E1 : Env} {a1 : Act} {W1 : World} {Q : Exit → Act → World → Prop}, stA σ1 = some (out, σ2) → CoreS n E1 σ1 [] a1.tmps.toList [] W1.heap → NextD n (base + site) E1 σ2 a1 W1 (Q out.exit') → asg.wpIn (Fw (some l)) 3 P Q a1 W1)
    (hB : ∀ {l : Nat} {σ1 σ2 : St} {out : Out} {E1 : Env} {a1 : Act} {W1 : World} {Q : Exit → Act → World → Prop}, stB σ1 = some (out, σ2) → CoreS n E1 σ1 [] a1.tmps.toList [] W1.heap → NextD n (base + site) E1 σ2 a1 W1 (Q out.exit') → bod.wpIn (Fw (some l)) 3 P Q a1 W1)
    {out : Out} {Q : Exit → Act → World → Prop} (hC : CoreS n E σ [] a.tmps.toList [] w.heap)
    (hr : rangeGo its base site ps.toList.length keep (opdV x σ) σ (fun y σ1 => match stA (setPs ps.toList y σ1) with | some (.normal, σ2) => stB σ2 | _ => none) = some (out, σ')) (K : NextD n base E σ' a w (Q out.exit')) :
    (Code.rangeFunc gop ps asg bod).wpIn (Fw none) 5 P Q a w := by
  unfold rangeGo at hr
  split at hr
  · rename_i g caps hv
    split at hr
    · rename_i bs hbx
      split at hr
      · rename_i ar xs hxs
        split at hr
        case isFalse => cases hr
        rename_i har
        obtain ⟨one, hone⟩ : ∃ one : List V → St → Option (Out × St), one = (fun y σ1 => match stA (setPs ps.toList y σ1) with | some (.normal, σ2) => stB σ2 | _ => none) := ⟨_, rfl⟩
        rw [← hone] at hr
        obtain ⟨run, hok, hrun⟩ := hits g bs ar xs hxs
        have k1 := boxesOf_ok hbx
        obtain ⟨t, rfl⟩ : ∃ t, x = .tmp t := by
          cases x with
          | tmp t => exact ⟨t, rfl⟩
          | val v => simp [opdV] at hv
        have hgop : gop = .tmp t := by
          cases gop with
          | tmp k => simp only [opd0, Option.some.injEq, Opd.tmp.injEq] at hx; rw [hx]
          | const v => cases v <;> simp [opd0, Option.map_eq_some_iff] at hx
          | func f => simp [opd0] at hx
          | global g => simp [opd0] at hx
        subst hgop
        simp only [opdV] at hv
        have htn : t < n := by
          rcases Nat.lt_or_ge t n with h | h
          · exact h
          · rw [hC.slotBig (by omega)] at hv; cases hv
        have hS := hC.slotRel htn
        rw [hv] at hS
        obtain ⟨_, hR⟩ := rel_leaf hS rfl (fun g => by simp)
        have hev : a.eval (.tmp t) = a.tmps.toList.getD t undef := by simp [Act.eval, Array.getD_eq_getD_getElem?, List.getD_eq_getElem?_getD]
        have hf : ∃ ys : Array Value, a.eval (.tmp t) = .func (.func g) #[] ys ∧ caps.length = ys.size ∧ ∀ (i : Nat) (v : V) (y : Value), caps[i]? = some v → ys[i]? = some y → RelC E σ.objs w.heap v y := by
          rw [hev]
          generalize a.tmps.toList.getD t undef = y at hR
          simp only [List.append_nil] at hR
          cases hR with
          | imm _ _ h => cases h
          | func _ _ ys hn h => exact ⟨ys, rfl, hn, h⟩
        obtain ⟨lb, hlb, hll, hlr⟩ := hf
        obtain ⟨σ0, hσ0⟩ : ∃ σ0, σ0 = rangeSt keep (base + site) σ.slots σ := ⟨_, rfl⟩
        have hC1 := range_core (keep := keep) (m := base + site) hC hC (fun _ _ h => ⟨h, rfl⟩) (fun _ _ => rfl)
        rw [← hσ0] at hC1 hr
        have hC2 := hC1.1
        obtain ⟨E0, hE0⟩ : ∃ E0, E0 = E := ⟨_, rfl⟩
        have hG0 : ∀ b, Grow b E w.heap E0 w.heap := fun b => by rw [hE0]; exact Grow.refl _ _ _
        rw [← hE0] at hC2
        have hfresh : ∀ b, w.heap.size ≤ b → E0.tag b = .other := hC2.core.fresh
        obtain ⟨enc, henc, hgive⟩ := hok.gives bs xs ar hrun E0 lb w (by rw [← hll, k1]; simp) (fun i cs hi => by
          obtain ⟨y, hy⟩ : ∃ y, lb[i]? = some y := by
            have : i < lb.size := by have := lt_of_getElem? hi; rw [← hll, k1]; simpa using this
            exact ⟨lb[i], Array.getElem?_eq_getElem this⟩
          have := hlr i (.iptr cs) y (by rw [k1, List.getElem?_map, hi]; rfl) hy
          rw [hy, hE0]
          cases this with
          | imm _ _ h => cases h
          | iptr _ ad hs h => exact ⟨ad, rfl, hs, fun j u hj => (h j u hj).2⟩)
        have hxl : ∀ k, k < xs.length → ∃ x, xs[k]? = some x := fun k hk => exists_getElem? hk
        refine wpIn_range (n := 5) (hId := fun k W ⟨Ek, σk, i1, i2, i3, i4, i5⟩ => ⟨Ek, σk, i1, i2, i3, i4, ⟨i5.os, i5.output, i5.tape⟩⟩) (Kp := fun A B => A.heap.size ≤ B.heap.size ∧ ∀ b i, E0.imm b i → cellAt B.heap b i = cellAt A.heap b i) rfl (by omega) hlb trivial (fun args w => callFunc_run hok.enter) (hgive _ (fun A B C h k => ⟨Nat.le_trans h.1 k.1, fun b i hb => (k.2 b i hb).trans (h.2 b i hb)⟩) (fun A B h => h.2) fun A => ⟨Nat.le_refl _, fun _ _ _ => rfl⟩) ?_ ?_ ?_ ?_
          (fun k W => ∃ Ek σk, rounds one (rangeSt none (base + site) σ0.slots) (xs.drop k) σk = some (out, σ') ∧ CoreS n Ek σk [] a.tmps.toList [] W.heap ∧ (∀ v ∈ σk.slots, v.refs = []) ∧ Grow (base + site) E0 w.heap Ek W.heap ∧ WSame w W)
          (fun c W => ∃ Ek, ((∃ id, out = .exit id ∧ c = .exit id) ∨ (out = .ret ∧ c = .ret)) ∧ CoreS n Ek σ' [] a.tmps.toList [] W.heap ∧ Grow (base + site) E0 w.heap Ek W.heap ∧ WSame w W) ?_ ?_ ?_ ?_ ?_ ?_ ?_
        · rintro A B C ⟨h1, h3⟩ ⟨h4, h6⟩
          exact ⟨Nat.le_trans h1 h4, fun b i h => (h6 b i h).trans (h3 b i h)⟩
        · intro W l o o' hl ho hoc
          have hne : ∀ b, E0.tag b ≠ .other → b ≠ l := fun b h e => h (hfresh b (by omega))
          have hsm : ∀ b, b ≠ l → (W.putObj l o').heap[b]? = W.heap[b]? := fun b h => World.putObj_heap_other h
          refine ⟨by simp, fun b i h => ?_⟩
          unfold cellAt
          rw [hsm b (hne b (by intro e; simp [Env.imm, e] at h))]
        · intro W o hs
          have hsm : ∀ b, b < w.heap.size → (W.alloc o).heap[b]? = W.heap[b]? := fun b h => Below.heap_alloc W o b (by omega)
          have hne : ∀ b, E0.tag b ≠ .other → b < w.heap.size := fun b h => by
            rcases Nat.lt_or_ge b w.heap.size with h1 | h1
            · exact h1
            · exact absurd (hfresh b h1) h
          refine ⟨by simp, fun b i h => ?_⟩
          unfold cellAt
          rw [hsm b (hne b (by intro e; simp [Env.imm, e] at h))]
        · intro k hk
          obtain ⟨x, hx⟩ := hxl k hk
          rw [(henc k x hx).2.1, har]; simp
        · rintro k W l o o' hl ⟨Ek, σk, i1, i2, i3, i4, i5⟩ ho hoc hoc'
          obtain ⟨j1, j2⟩ := turn_core (o' := o') i2 i4 hfresh hl ho hoc
          exact ⟨_, σk, i1, j1, i3, j2, ⟨i5.os, i5.output, i5.tape⟩⟩
        · rintro c W l o o' hl ⟨Ek, i1, i2, i4, i5⟩ ho hoc hoc'
          obtain ⟨j1, j2⟩ := turn_core (o' := o') i2 i4 hfresh hl ho hoc
          exact ⟨_, i1, j1, j2, ⟨i5.os, i5.output, i5.tape⟩⟩
        · exact ⟨E0, σ0, hr, hC2, hC1.2, Grow.refl _ _ _, WSame.refl _⟩
        · rintro W o hoc ⟨Ek, σk, i1, i2, i3, i4, i5⟩
          have hk : ∀ (b : Nat) (x : Go.Obj), W.heap[b]? = some x → (b < w.heap.size ∨ x.isCells = true) → (W.alloc o).heap[b]? = some x := fun b x hb _ => (Below.heap_alloc W o b (Array.getElem?_eq_some_iff.1 hb).1).trans hb
          exact ⟨_, σk, i1, clear_core i2 (by simp) hk i4.size, i3, clear_grow hfresh i4 (by simp) hk rfl, ⟨i5.os, i5.output, i5.tape⟩⟩
        · rintro l k W hl ⟨Ek, σk, i1, i2, i3, i4, i5⟩ hk
          obtain ⟨x, hx⟩ := hxl k hk
          have hdrop : xs.drop k = x :: xs.drop (k + 1) := by
            rw [List.drop_eq_getElem_cons hk, (List.getElem_eq_iff hk).2 hx]
          rw [hdrop] at i1
          simp only [rounds] at i1
          have hkk : ∀ (b : Nat) (y : Go.Obj), W.heap[b]? = some y → (b < w.heap.size ∨ y.isCells = true) → W.heap[b]? = some y := fun _ _ h _ => h
          have j2 := clear_core i2 (Nat.le_refl _) hkk i4.size
          have j4 := clear_grow hfresh i4 (Nat.le_refl _) hkk rfl
          obtain ⟨E1, hE1⟩ : ∃ E1, E1 = Ek.clear w.heap.size W.heap := ⟨_, rfl⟩
          have hoth : ∀ b y, w.heap.size ≤ b → W.heap[b]? = some y → y.isCells = false → E1.tag b = .other := fun b y h1 h2 h3 => by rw [hE1]; exact clear_other h1 h2 h3
          rw [← hE1] at j2 j4
          obtain ⟨q1, q2, q3⟩ := henc k x hx
          have hset := setPs_core (n := n) ps.toList x (enc k).toList j2 i3 (by rw [q1]; simpa using q2) (fun j v z hv hz => by
            obtain ⟨e1, e2⟩ := q3 j v z hv (by simpa using hz)
            exact ⟨e1, fun j u z hu hz => ⟨(e2 j u z hu hz).1, (e2 j u z hu hz).2.mono fun b i h => j4.imm b i h⟩⟩)
          rw [← pfold_sets2] at hset
          have hone' : ∀ {o2 : Out} {σ3 : St}, one x σk = some (o2, σ3) → ∃ σ2, stA (setPs ps.toList x σk) = some (.normal, σ2) ∧ stB σ2 = some (o2, σ3) := by
            intro o2 σ3 h
            rw [hone] at h
            simp only at h
            split at h
            · exact ⟨_, by assumption, h⟩
            · cases h
          cases hx1 : one x σk with
          | none => rw [hx1] at i1; cases i1
          | some r =>
            obtain ⟨o2, σ3⟩ := r
            rw [hx1] at i1
            obtain ⟨σ2, s1, s2⟩ := hone' hx1
            refine hA (l := l) s1 hset ?_
            intro E2 a2 W2 c1 c2 c3 _
            have hKp2 : KeepsFrom w.heap.size W W2 ∧ (W.heap.size ≤ W2.heap.size ∧ ∀ b i, E0.imm b i → cellAt W2.heap b i = cellAt W.heap b i) := by
              refine ⟨⟨c2.size, fun b y hb hy hyc => ((c2.other b (Array.getElem?_eq_some_iff.1 hy).1 (hoth b y hb hy hyc)).2).trans hy⟩, c2.size, fun b i h => (c2.imm b i (j4.imm b i h).1).2⟩
            refine ⟨hKp2.1, hKp2.2, fun o o0 ho hoc hoc' => ?_⟩
            obtain ⟨t1, t2⟩ := turn_core (o' := o) c1 (j4.trans c2) hfresh hl ho hoc
            have hoth3 : ∀ b y, w.heap.size ≤ b → (W2.putObj l o).heap[b]? = some y → y.isCells = false → (E2.clear w.heap.size W2.heap).tag b = .other := by
              intro b y h1 h2 h3
              by_cases hbl : b = l
              · subst hbl; exact clear_other h1 ho hoc
              · rw [World.putObj_heap_other hbl] at h2
                exact clear_other h1 h2 h3
            refine hB (l := l) s2 t1 ?_
            intro E3 a3 W3 d1 d2 d3 _
            have hKp3 : KeepsFrom w.heap.size (W2.putObj l o) W3 ∧ ((W2.putObj l o).heap.size ≤ W3.heap.size ∧ ∀ b i, E0.imm b i → cellAt W3.heap b i = cellAt (W2.putObj l o).heap b i) := by
              refine ⟨⟨d2.size, fun b y hb hy hyc => ((d2.other b (Array.getElem?_eq_some_iff.1 hy).1 (hoth3 b y hb hy hyc)).2).trans hy⟩, d2.size, fun b i h => (d2.imm b i (t2.imm b i h).1).2⟩
            have hG3 : Grow (base + site) E0 w.heap E3 W3.heap := t2.trans d2
            have hW3 : WSame w W3 := (i5.trans c3).trans ⟨d3.os, d3.output, d3.tape⟩
            have hC3 := range_core (keep := none) (m := base + site) hC2 d1 (fun b i h => hG3.imm b i h) (fun o h => hG3.addr o h)
            cases o2 with
            | normal => exact ⟨hKp3.1, hKp3.2, E3, _, i1, hC3.1, hC3.2, hG3, hW3⟩
            | exit id =>
              simp only [Option.some.injEq, Prod.mk.injEq] at i1
              obtain ⟨e1, e2⟩ := i1
              exact ⟨hKp3.1, E3, .inl ⟨id, e1.symm, rfl⟩, e2 ▸ hC3.1, hG3, hW3⟩
            | ret =>
              simp only [Option.some.injEq, Prod.mk.injEq] at i1
              obtain ⟨e1, e2⟩ := i1
              exact ⟨hKp3.1, E3, .inr ⟨e1.symm, rfl⟩, e2 ▸ hC3.1, hG3, hW3⟩
        · rintro D W hD ⟨Ek, σk, i1, i2, i3, i4, i5⟩ hDd
          rw [List.drop_length] at i1
          simp only [rounds, Option.some.injEq, Prod.mk.injEq] at i1
          obtain ⟨rfl, rfl⟩ := i1
          have hkk : ∀ (b : Nat) (y : Go.Obj), W.heap[b]? = some y → (b < w.heap.size ∨ y.isCells = true) → W.heap[b]? = some y := fun _ _ h _ => h
          have j2 := clear_core i2 (Nat.le_refl _) hkk i4.size
          have j4 := clear_grow hfresh i4 (Nat.le_refl _) hkk rfl
          exact K _ _ W j2 ((hG0 base).trans (j4.less (Nat.le_add_right _ _))) i5 ⟨[D], by simp, by simp, fun D' h => by simp at h; subst h; exact ⟨hD, clear_other hD hDd rfl, hDd⟩⟩
        · rintro D c W hD ⟨Ek, i1, i2, i4, i5⟩ hDd
          have hkk : ∀ (b : Nat) (y : Go.Obj), W.heap[b]? = some y → (b < w.heap.size ∨ y.isCells = true) → W.heap[b]? = some y := fun _ _ h _ => h
          have j2 := clear_core i2 (Nat.le_refl _) hkk i4.size
          have j4 := clear_grow hfresh i4 (Nat.le_refl _) hkk rfl
          have hK := K _ { a with defers := { target := .collected D, args := #[] } :: a.defers } W j2 ((hG0 base).trans (j4.less (Nat.le_add_right _ _))) i5 ⟨[D], by simp, by simp, fun D' h => by simp at h; subst h; exact ⟨hD, clear_other hD hDd rfl, hDd⟩⟩
          rcases i1 with ⟨id, rfl, rfl⟩ | ⟨rfl, rfl⟩
          · exact wpIn_exit hK
          · exact wpIn_ret hK
      · cases hr
    · cases hr
  · cases hr
end
end Go.Vq
namespace Go.Vq
section
variable {P : Program} {n : Nat} {G : VProg}
theorem NextD.then {base : Nat} {E E1 : Env} {σ' : St} {a a1 : Act} {w w1 : World} {next : Act → World → Prop} (K : NextD n base E σ' a w next) (hG : Grow base E w.heap E1 w1.heap) (hW : WSame w w1) (hM : Marks w.heap.size E1 a.defers a1.defers w1.heap) :
    NextD n base E1 σ' a1 w1 next := fun E2 a2 w2 h1 h2 h3 h4 => K E2 a2 w2 h1 (hG.trans h2) (hW.trans h3) (hM.trans h2 h4 hG.size)
theorem itersOf_some {g : FuncId} {bs : List (List V)} {r : Nat × List (List V)} (h : itersOf G g bs = some r) : ∃ run, G g = some (.iter run) ∧ run bs = some r := by
  unfold itersOf at h
  cases hg : G g with
  | none => rw [hg] at h; cases h
  | some d =>
    rw [hg] at h
    cases d <;> first | (cases h; done) | exact ⟨_, rfl, h⟩
theorem code_sound {M : Nat} (hcall : ∀ k, k ≤ M → CalleeOk P (call G k)) (hits : ∀ g run, G g = some (.iter run) → IterOk P g run) : ∀ (c : Code) {r : Bool} {site m : Nat} {vc : VCode}, cCode P r site c = some (m, vc.strip) → ∀ {ro : Option Nat}, (r = false → ro = none) → ∀ {base k : Nat}, k ≤ M →
    ∀ {nf : Nat} {E : Env} {σ σ' : St} {out : Out} {a : Act} {w : World} {Q : Exit → Act → World → Prop},
    step (call G k) (itersOf G) (exec G k) base vc σ = some (out, σ') → CoreS n E σ [] a.tmps.toList [] w.heap → NextD n base E σ' a w (Q out.exit') → c.wpIn (Fw ro) nf P Q a w
  | .skip, r, site, m, vc, hc, ro, hro, base, k, hk, nf, E, σ, σ', out, a, w, Q, hr, hC, K => by
    simp only [cCode, Option.some.injEq, Prod.mk.injEq] at hc
    cases vc <;> simp only [VCode.strip, reduceCtorEq, and_false] at hc
    simp only [step, Option.some.injEq, Prod.mk.injEq] at hr
    obtain ⟨rfl, rfl⟩ := hr
    exact wpIn_skip (K E a w hC (Grow.refl _ _ _) (WSame.refl _) (.refl rfl))
  | .region id ops draw, r, site, m, vc, hc, ro, hro, base, k, hk, nf, E, σ, σ', out, a, w, Q, hr, hC, K => by
    simp only [cCode, Option.bind_eq_bind, Option.pure_def] at hc
    obtain ⟨⟨m', l⟩, h1, hc⟩ := Option.bind_eq_some_iff.1 hc
    dsimp only at hc
    have hord : (draw && !ordOk ops) = false := by
      cases hord : draw && !ordOk ops with
      | false => rfl
      | true => rw [hord] at hc; simp at hc
    rw [hord] at hc
    simp only [Bool.false_eq_true, if_false] at hc
    simp only [Option.some.injEq, Prod.mk.injEq] at hc
    cases vc <;> simp only [VCode.strip, reduceCtorEq, and_false] at hc
    rename_i vs draw' _
    obtain ⟨h2, h3⟩ := hc
    cases h3
    simp only [step, Option.map_eq_some_iff] at hr
    obtain ⟨σ1, h4, h5⟩ := hr
    cases h5
    exact region_sound (hcall k hk) h1 hord hC h4 K.of
  | .seq x y, r, site, m, vc, hc, ro, hro, base, k, hk, nf, E, σ, σ', out, a, w, Q, hr, hC, K => by
    simp only [cCode, Option.bind_eq_bind, Option.pure_def] at hc
    obtain ⟨⟨m1, l1⟩, h1, hc⟩ := Option.bind_eq_some_iff.1 hc
    obtain ⟨⟨m2, l2⟩, h2, hc⟩ := Option.bind_eq_some_iff.1 hc
    simp only [Option.some.injEq, Prod.mk.injEq] at hc
    cases vc <;> simp only [VCode.strip, reduceCtorEq, and_false] at hc
    rename_i va vb _ _
    obtain ⟨_, h3⟩ := hc
    cases h3
    simp only [step] at hr
    refine wpIn_seq ?_
    cases hx : step (call G k) (itersOf G) (exec G k) base va σ with
    | none => rw [hx] at hr; cases hr
    | some q =>
      obtain ⟨o1, σ1⟩ := q
      rw [hx] at hr
      refine code_sound hcall hits x h1 hro hk hx hC fun E1 a1 w1 c1 c2 c3 c4 => ?_
      cases o1 with
      | normal =>
        simp only [Out.exit', Exit.then]
        exact code_sound hcall hits y h2 hro hk hr c1 (K.then c2 c3 c4)
      | exit id => cases hr; exact K E1 a1 w1 c1 c2 c3 c4
      | ret => cases hr; exact K E1 a1 w1 c1 c2 c3 c4
  | .cond c x y, r, site, m, vc, hc, ro, hro, base, k, hk, nf, E, σ, σ', out, a, w, Q, hr, hC, K => by
    simp only [cCode, Option.bind_eq_bind, Option.pure_def] at hc
    obtain ⟨c', h0, hc⟩ := Option.bind_eq_some_iff.1 hc
    obtain ⟨⟨m1, l1⟩, h1, hc⟩ := Option.bind_eq_some_iff.1 hc
    obtain ⟨⟨m2, l2⟩, h2, hc⟩ := Option.bind_eq_some_iff.1 hc
    simp only [Option.some.injEq, Prod.mk.injEq] at hc
    cases vc <;> simp only [VCode.strip, reduceCtorEq, and_false] at hc
    rename_i c2 va vb _
    obtain ⟨_, h3⟩ := hc
    cases h3
    simp only [step] at hr
    split at hr
    · rename_i hb
      exact wpIn_cond_true (condV_sound hC h0 hb) (code_sound hcall hits x h1 hro hk hr hC K)
    · rename_i hb
      exact wpIn_cond_false (condV_sound hC h0 hb) (code_sound hcall hits y h2 hro hk hr hC K)
    · cases hr
  | .block id x, r, site, m, vc, hc, ro, hro, base, k, hk, nf, E, σ, σ', out, a, w, Q, hr, hC, K => by
    simp only [cCode, Option.bind_eq_bind, Option.pure_def] at hc
    obtain ⟨⟨m1, l1⟩, h1, hc⟩ := Option.bind_eq_some_iff.1 hc
    simp only [Option.some.injEq, Prod.mk.injEq] at hc
    cases vc <;> simp only [VCode.strip, reduceCtorEq, and_false] at hc
    rename_i id' keep va _
    obtain ⟨_, h3⟩ := hc
    cases h3
    simp only [step] at hr
    refine wpIn_block ?_
    cases hx : step (call G k) (itersOf G) (exec G k) base va σ with
    | none => rw [hx] at hr; cases hr
    | some q =>
      obtain ⟨o1, σ1⟩ := q
      rw [hx] at hr
      refine code_sound hcall hits x h1 hro hk hx hC fun E1 a1 w1 c1 c2 c3 c4 => ?_
      cases o1 with
      | normal => cases hr; exact K E1 a1 w1 (rebase_sound c1) c2 c3 c4
      | exit id2 =>
        dsimp only at hr
        simp only [Out.exit', Exit.inBlock]
        by_cases e : id2 = id
        · rw [if_pos e] at hr ⊢; cases hr; exact K E1 a1 w1 (rebase_sound c1) c2 c3 c4
        · rw [if_neg e] at hr ⊢; cases hr; exact K E1 a1 w1 c1 c2 c3 c4
      | ret => cases hr; exact K E1 a1 w1 c1 c2 c3 c4
  | .loop x, r, site, m, vc, hc, ro, hro, base, k, hk, nf, E, σ, σ', out, a, w, Q, hr, hC, K => by
    simp only [cCode, Option.bind_eq_bind, Option.pure_def] at hc
    obtain ⟨⟨m1, l1⟩, h1, hc⟩ := Option.bind_eq_some_iff.1 hc
    simp only [Option.some.injEq, Prod.mk.injEq] at hc
    cases vc <;> simp only [VCode.strip, reduceCtorEq, and_false] at hc
    rename_i keep va _
    obtain ⟨_, h3⟩ := hc
    cases h3
    refine wpIn_loop_fuel (m := k) (fun k' a' w' => ∃ E1 σ1, k' ≤ M ∧ step (call G k') (itersOf G) (exec G k') base (.loop keep va) σ1 = some (out, σ') ∧ CoreS n E1 σ1 [] a'.tmps.toList [] w'.heap ∧ Grow base E w.heap E1 w'.heap ∧ WSame w w' ∧ Marks w.heap.size E1 a.defers a'.defers w'.heap) ⟨E, σ, hk, hr, hC, Grow.refl _ _ _, WSame.refl _, .refl rfl⟩ ?_
    rintro k' a' w' ⟨E1, σ1, hk', hr', hC', hG', hW', hd'⟩
    simp only [step] at hr'
    cases hx : step (call G k') (itersOf G) (exec G k') base va (rebase? keep base σ1) with
    | none => rw [hx] at hr'; cases hr'
    | some q =>
      obtain ⟨o1, σ2⟩ := q
      rw [hx] at hr'
      refine code_sound hcall hits x h1 hro hk' hx (rebase_sound hC') fun E2 a2 w2 c1 c2 c3 c4 => ?_
      have hG2 := hG'.trans c2
      have hW2 := hW'.trans c3
      have hM2 := hd'.trans c2 c4 hG'.size
      cases o1 with
      | normal =>
        simp only at hr'
        cases k' with
        | zero => simp only [exec] at hr'; cases hr'
        | succ k'' =>
          simp only [exec] at hr'
          exact ⟨k'', Nat.lt_succ_self _, E2, σ2, by omega, hr', c1, hG2, hW2, hM2⟩
      | exit id => cases hr'; exact K E2 a2 w2 c1 hG2 hW2 hM2
      | ret => cases hr'; exact K E2 a2 w2 c1 hG2 hW2 hM2
  | .scope x, r, site, m, vc, hc, ro, hro, base, k, hk, nf, E, σ, σ', out, a, w, Q, hr, hC, K => by
    simp only [cCode] at hc
    refine wpIn_scope ?_
    refine code_sound hcall hits x hc hro hk hr hC fun E1 a1 w1 c1 c2 c3 c4 => ?_
    have := K E1 a1 w1 c1 c2 c3 c4
    cases out <;> exact this
  | .exit id, r, site, m, vc, hc, ro, hro, base, k, hk, nf, E, σ, σ', out, a, w, Q, hr, hC, K => by
    simp only [cCode, Option.some.injEq, Prod.mk.injEq] at hc
    cases vc <;> simp only [VCode.strip, reduceCtorEq, and_false] at hc
    obtain ⟨_, h3⟩ := hc
    cases h3
    simp only [step, Option.some.injEq, Prod.mk.injEq] at hr
    obtain ⟨rfl, rfl⟩ := hr
    exact wpIn_exit (K E a w hC (Grow.refl _ _ _) (WSame.refl _) (.refl rfl))
  | .ret, r, site, m, vc, hc, ro, hro, base, k, hk, nf, E, σ, σ', out, a, w, Q, hr, hC, K => by
    simp only [cCode, Option.some.injEq, Prod.mk.injEq] at hc
    cases vc <;> simp only [VCode.strip, reduceCtorEq, and_false] at hc
    simp only [step, Option.some.injEq, Prod.mk.injEq] at hr
    obtain ⟨rfl, rfl⟩ := hr
    exact wpIn_ret (K E a w hC (Grow.refl _ _ _) (WSame.refl _) (.refl rfl))
  | .rangeFunc g ps x y, false, site, m, vc, hc, ro, hro, base, k, hk, nf, E, σ, σ', out, a, w, Q, hr, hC, K => by
    simp only [cCode, Option.bind_eq_bind, Option.pure_def] at hc
    obtain ⟨g', h0, hc⟩ := Option.bind_eq_some_iff.1 hc
    obtain ⟨⟨m1, l1⟩, h1, hc⟩ := Option.bind_eq_some_iff.1 hc
    obtain ⟨⟨m2, l2⟩, h2, hc⟩ := Option.bind_eq_some_iff.1 hc
    simp only [Option.some.injEq, Prod.mk.injEq] at hc
    cases vc <;> simp only [VCode.strip, reduceCtorEq, and_false] at hc
    rename_i g2 ps' site' keep va vb _ _ _
    obtain ⟨_, h3⟩ := hc
    cases h3
    obtain rfl := hro rfl
    simp only [step] at hr
    refine wpIn_any (n := 5) (range_sound (stA := fun σ1 => step (call G k) (itersOf G) (exec G k) (base + site) va σ1) (stB := fun σ1 => step (call G k) (itersOf G) (exec G k) (base + site) vb σ1) h0 (fun g bs ar xs h => ?_) (fun h1' h2' h3' => ?_) (fun h1' h2' h3' => ?_) hC hr K)
    · obtain ⟨run, e1, e2⟩ := itersOf_some h
      exact ⟨run, hits _ _ e1, e2⟩
    · exact code_sound hcall hits x h1 (fun h => by cases h) hk h1' h2' h3'
    · exact code_sound hcall hits y h2 (fun h => by cases h) hk h1' h2' h3'
  | .rangeFunc .., true, _, _, _, hc, _, _, _, _, _, _, _, _, _, _, _, _, _, hr, _, _ => (bad_run hc hr).elim
  | .label .., r, _, _, _, hc, _, _, _, _, _, _, _, _, _, _, _, _, _, hr, _, _ => by cases r <;> (simp only [cCode] at hc; exact (bad_run hc hr).elim)
  | .goto .., r, _, _, _, hc, _, _, _, _, _, _, _, _, _, _, _, _, _, hr, _, _ => by cases r <;> (simp only [cCode] at hc; exact (bad_run hc hr).elim)
  | .refuse .., r, _, _, _, hc, _, _, _, _, _, _, _, _, _, _, _, _, _, hr, _, _ => by cases r <;> (simp only [cCode] at hc; exact (bad_run hc hr).elim)
end
end Go.Vq
namespace Go.Vq
section
variable {P : Program} {n base : Nat} {E E' E2 : Env} {σ σ' : St} {hs : List V} {ts xs : List Value} {H H' H2 : Array Go.Obj}
variable {a : Act} {w : World} {G : VProg}
theorem res1_Sound {b : Nat} : Sound1 n base (res1 b) (fun u => ∀ g, u ≠ .gone g) := by
  intro E σ σ' hs ts xs H w x h i u k hC hu hr
  have hS := hand_rel hC
  have hsame : w.withLeaves (w.leaves.set i u) = w := by rw [set_same hu, withLeaves_same hS.formed]
  have hul := hS.leafs u (List.mem_of_getElem? hu)
  have hid : (∀ g, u ≠ .gone g) → (k u).run σ = some σ' → ∃ E1 σ1 u', CoreS n E1 σ1 (hs ++ [w.withLeaves (w.leaves.set i u')]) ts (xs ++ [x]) H ∧ Grow base E H E1 H ∧ E1.addr = E.addr ∧ (k u').run σ1 = some σ' ∧ u'.leaf = true ∧ ∀ g, u' ≠ .gone g :=
    fun hg hr => ⟨E, σ, u, by rw [hsame]; exact hC, Grow.refl _ _ _, rfl, hr, hul, hg⟩
  have hstay : ∀ u', (∀ g, u' ≠ .gone g) → (k u').run σ = some σ' → u'.leaf = true → u'.refs1 = [] → (∀ g, u ≠ .gone g) → (∀ slots' y, RelV E (σ.slots ++ (hs ++ [w])) σ.objs (ts ++ (xs ++ [x])) H (.slot (n + hs.length) i) u y → RelV E slots' σ.objs (ts ++ (xs ++ [x])) H (.slot (n + hs.length) i) u' y) →
      ∃ E1 σ1 u', CoreS n E1 σ1 (hs ++ [w.withLeaves (w.leaves.set i u')]) ts (xs ++ [x]) H ∧ Grow base E H E1 H ∧ E1.addr = E.addr ∧ (k u').run σ1 = some σ' ∧ u'.leaf = true ∧ ∀ g, u' ≠ .gone g := by
    intro u' hg' hr h1 h2 hg h5
    refine ⟨E, σ, u', ?_, Grow.refl _ _ _, rfl, hr, h1, hg'⟩
    exact hC.turnHand hu hg ⟨h1, h2⟩ rfl (fun _ _ h => h) (fun _ _ _ _ _ _ h => h) (fun _ _ _ _ _ _ _ h => h) (fun _ _ h => h) (fun _ h => h) (fun y _ hR slots' => h5 slots' y hR)
  cases u <;> first
    | exact hid (fun g => by simp) hr
    | (cases hr; done)
    | skip
  case isl g sz es =>
    refine hstay (.isl 0 sz es) (fun g => by simp) hr rfl rfl (fun g => by simp) fun slots' y hR => ?_
    simp only [RelV] at hR ⊢
    cases hR with
    | isl _ _ _ a cap xs hc ha hsp hz hx h => exact .isl _ _ _ a cap xs hc ha hsp hz hx h
  case xsl g sz es => exact hstay (.xsl 0 sz es) (fun g => by simp) hr rfl rfl (fun g => by simp) fun slots' y hR => hR
  case fsl g sz es => exact hstay (.fsl 0 sz es) (fun g => by simp) hr rfl rfl (fun g => by simp) fun slots' y hR => hR
  case csl sz es => exact hstay (.isl 0 sz es) (fun g => by simp) hr rfl rfl (fun g => by simp) fun slots' y hR => hR.1
  case nilS sz =>
    refine hstay (.xsl 0 sz []) (fun g => by simp) hr rfl rfl (fun g => by simp) fun slots' y hR => ?_
    have e := relV_toVal hR rfl
    subst e
    exact ⟨none, 0, rfl, Nat.le_refl _, fun _ => rfl, fun _ h => (by cases h), fun h => absurd rfl h, Elems.nil _ _ _ _⟩
  case srf hh g sz off len =>
    obtain ⟨X, hX⟩ : ∃ X, res1 b h (.srf hh g sz off len) k = settle1 X (.srf hh g sz off len) k := ⟨_, rfl⟩
    rw [hX] at hr
    have hr2 : (settle1 X (.srf hh g sz off len) fun v => match v with | .gone _ => .fail | v => k v).run σ = some σ' := by
      have e : ∀ es : List V, (match (if off + len = es.length then V.fsl 0 sz ((es.drop off).take len) else V.isl 0 sz ((es.drop off).take len)) with | .gone _ => .fail | v => k v) = k (if off + len = es.length then V.fsl 0 sz ((es.drop off).take len) else V.isl 0 sz ((es.drop off).take len)) := by
        intro es
        by_cases hc : off + len = es.length
        · simp only [if_pos hc]
        · simp only [if_neg hc]
      simp only [settle1, e] at hr ⊢
      exact hr
    obtain ⟨E1, σ1, u', h1, h2, h3, h4, h5, _, _⟩ := settle1_sound (base := base) hC hu hr2
    cases u' <;> first
      | (cases h4; done)
      | exact ⟨E1, σ1, _, h1, h2, h3, h4, h5, fun g => by simp⟩
theorem ress_sound {b : Nat} {v : V} {x : Value} {k : V → Prog} (hnt : ∀ vs, v ≠ .tup vs) (hC : CoreS n E σ (hs ++ [v]) ts (xs ++ [x]) H) (hr : (ress b v.leaves fun ls => k (v.withLeaves ls)).run σ = some σ') :
    ∃ E1 σ1 v', CoreS n E1 σ1 (hs ++ [v']) ts (xs ++ [x]) H ∧ Grow base E H E1 H ∧ (k v').run σ1 = some σ' ∧ (v'.leaf = true ∨ ∃ cs, v' = .agg cs) ∧ ∀ g, v' ≠ .gone g := by
  obtain ⟨E1, σ1, ls, c1, c2, c3, c4, c5, c6⟩ := list_sound (base := base) (res1_Sound (b := b)) (fun _ _ vs k => ress b vs k) (fun _ _ _ => rfl) (fun _ _ _ _ _ => rfl) (fun _ => none) v.leaves [] hC rfl hr
  refine ⟨E1, σ1, _, c1, c2, c4, ?_⟩
  rw [List.nil_append]
  by_cases hl : v.leaf = true
  · rw [withLeaves_leaf hl]
    rw [leaves_leaf hl] at c5
    cases ls with
    | nil => simp at c5
    | cons l ls => exact ⟨.inl (c6 l (by simp)).1, (c6 l (by simp)).2⟩
  · cases v <;> first | exact absurd rfl hl | exact absurd rfl (hnt _) | exact ⟨.inr ⟨_, rfl⟩, fun g => by simp [V.withLeaves]⟩
def ResIs (P : Program) (w : World) (tmps : Array Value) (r : ResultVar) (x : Value) : Prop :=
  match r with
  | .tmp t => tmps.getD t undef = x
  | .cell a t => ∃ ad, tmps.getD a undef = .pointer (some ad) ∧ (loadVar t ad).run P w = .ok x w
theorem getRes_sound {b : Nat} {r : ResultVar} {v : VRes} {k : V → Prog} (hc : cRes P r = some v) (hC : CoreS n E σ hs a.tmps.toList xs w.heap) (hr : (getRes b v k).run σ = some σ') :
    ∃ E1 σ1 u x, CoreS n E1 σ1 (hs ++ [u]) a.tmps.toList (xs ++ [x]) w.heap ∧ Grow base E w.heap E1 w.heap ∧ (k u).run σ1 = some σ' ∧ ResIs P w a.tmps r x ∧ (u.leaf = true ∨ ∃ cs, u = .agg cs) ∧ ∀ g, u ≠ .gone g := by
  cases r with
  | tmp t =>
    simp only [cRes, Option.some.injEq] at hc
    subst hc
    simp only [getRes] at hr
    have hok : OpdOk a.tmps.toList (.tmp t) (a.tmps.getD t undef) := by simp [OpdOk, Array.getD_eq_getD_getElem?, List.getD_eq_getElem?_getD]
    obtain ⟨v, hr2, hv, hrf, h1, h2⟩ := opd_rel (v := .nil) hC hok hr
    clear hr
    have hr3 : (∀ vs, v ≠ .tup vs) ∧ (drain (.tmp t) <| ress b v.leaves fun ls => k (v.withLeaves ls)).run σ = some σ' := by
      cases v <;> first | exact ⟨fun vs => by simp, hr2⟩ | (cases hr2; done)
    obtain ⟨hnt, hr3⟩ := hr3
    obtain ⟨E1, σ1, b1, b2, _, b4⟩ := grab_sound (base := base) hC hv hrf h1 h2 hok hr3
    obtain ⟨E2, σ2, u, c1, c2, c3, c4⟩ := ress_sound (base := base) hnt b1 b4
    exact ⟨E2, σ2, u, _, c1, b2.trans c2, c3, rfl, c4⟩
  | cell c t =>
    simp only [cRes, Option.bind_eq_bind, Option.pure_def] at hc
    obtain ⟨agg, ha, hc⟩ := Option.bind_eq_some_iff.1 hc
    obtain ⟨m, hs', hc⟩ := Option.bind_eq_some_iff.1 hc
    cases hc
    simp only [getRes] at hr
    have hok : OpdOk a.tmps.toList (.tmp c) (a.tmps.getD c undef) := by simp [OpdOk, Array.getD_eq_getD_getElem?, List.getD_eq_getElem?_getD]
    obtain ⟨u, hr, ⟨s, hS, hs''⟩, hrest⟩ := opd_rel (v := .nil) hC hok hr
    clear hrest hs''
    cases u <;> first | (cases hr; done) | skip
    rename_i r
    obtain ⟨_, hR⟩ := rel_leaf hS rfl (fun g => by simp)
    obtain ⟨ad, hx⟩ := (relE hS).1 r rfl
    rw [hx] at hR
    have hsp := gCells_spot hC hR hr
    obtain ⟨cs, hr2, hl, hcs⟩ := gCells_sound hC hR hr
    obtain ⟨v, hv, hr3⟩ := optV_run hr2
    have hlen : cs.length = (cellsAt w.heap ad m).length := by rw [hl, cellsAt_len]
    obtain ⟨hC2, h1⟩ := hC.pushCells (ys := cellsAt w.heap ad m) hlen (fun j z y hz hy => by
      obtain ⟨y', e1, e2, e3, e4, e5⟩ := hcs j z hz
      rw [cellsAt_get (by rw [← hl]; exact lt_of_getElem? hz) e1] at hy; cases hy
      exact ⟨⟨.slot 0 0, e2 _⟩, e3, e4, e5⟩) hv
    have hload := loadVar_run (w := w) ha hs' hsp (fun j hj => by
      obtain ⟨y', e1, _⟩ := hcs j cs[j] (List.getElem?_eq_getElem (by omega))
      exact ⟨y', e1⟩) (fun h => by rw [← hl]; exact h1 h)
    have hnt : ∀ vs, v ≠ .tup vs := by
      rintro vs rfl
      cases agg with
      | true => simp [ofCells] at hv
      | false =>
        simp only [ofCells, Bool.false_eq_true, if_false] at hv
        split at hv
        · cases hv
          obtain ⟨_, _, _, _, e4, _⟩ := hcs 0 _ rfl
          cases e4
        · cases hv
    obtain ⟨E2, σ2, u, c1, c2, c3, c4⟩ := ress_sound (base := base) hnt hC2 hr3
    exact ⟨E2, σ2, u, _, c1, c2, c3, ⟨ad, hx, hload⟩, c4⟩
theorem getRess_sound {b : Nat} : ∀ {rs : List ResultVar} {vs : List VRes} {k : List V → Prog} {E : Env} {σ : St} {hs : List V} {xs : List Value}, rs.mapM (cRes P) = some vs → CoreS n E σ hs a.tmps.toList xs w.heap → (getRess b vs k).run σ = some σ' →
    ∃ E1 σ1 us ys, CoreS n E1 σ1 (hs ++ us) a.tmps.toList (xs ++ ys) w.heap ∧ Grow base E w.heap E1 w.heap ∧ (k us).run σ1 = some σ' ∧ us.length = rs.length ∧ ys.length = rs.length ∧ (∀ (i : Nat) (r : ResultVar) (y : Value), rs[i]? = some r → ys[i]? = some y → ResIs P w a.tmps r y) ∧ ∀ u ∈ us, (u.leaf = true ∨ ∃ cs, u = .agg cs) ∧ ∀ g, u ≠ .gone g
  | [], vs, k, E, σ, hs, xs, h, hC, hr => by
    simp at h; subst h
    exact ⟨E, σ, [], [], by simpa using hC, Grow.refl _ _ _, hr, rfl, rfl, (fun i r y h => by simp at h), fun u h => by cases h⟩
  | r :: rs, vs, k, E, σ, hs, xs, h, hC, hr => by
    rw [List.mapM_cons] at h
    simp only [Option.bind_eq_bind, Option.pure_def] at h
    obtain ⟨v0, h0, h⟩ := Option.bind_eq_some_iff.1 h
    obtain ⟨vs', h1, h⟩ := Option.bind_eq_some_iff.1 h
    cases h
    simp only [getRess] at hr
    obtain ⟨E1, σ1, u, x, b1, b2, b3, b4, b5⟩ := getRes_sound (base := base) h0 hC hr
    obtain ⟨E2, σ2, us, ys, c1, c2, c3, c4, c5, c6, c7⟩ := getRess_sound h1 b1 b3
    refine ⟨E2, σ2, u :: us, x :: ys, by simpa using c1, b2.trans c2, c3, by simp [c4], by simp [c5], fun i r' y hr' hy => ?_, fun v hv => ?_⟩
    · cases i with
      | zero => simp at hr' hy; subst hr' hy; exact b4
      | succ i => exact c6 i r' y (by simpa using hr') (by simpa using hy)
    · rcases List.mem_cons.1 hv with rfl | hv
      · exact b5
      · exact c7 v hv
def packX : List Value → Value
  | [y] => y
  | ys => .tuple ys.toArray
def resF (tmps : Array Value) : ResultVar → Sem Value
  | .tmp t => pure (tmps.getD t undef)
  | .cell a t => do loadVar t (← asAddr (tmps.getD a undef))
theorem resF_run {tmps : Array Value} {r : ResultVar} {y : Value} (h : ResIs P w tmps r y) : (resF tmps r).run P w = .ok y w := by
  cases r with
  | tmp t =>
    simp only [ResIs] at h
    simp only [resF, Sem.run_pure, h]
  | cell c t =>
    obtain ⟨ad, e1, e2⟩ := h
    simp only [resF, Sem.run_bind, e1, asAddr, Sem.run_pure, Result.andThen_ok, e2]
theorem results_eq (fn : Func) (tmps : Array Value) : results fn tmps = (do let vs ← fn.results.mapM (resF tmps); pure (if h : vs.size = 1 then vs[0] else .tuple vs)) := by
  unfold results
  congr 1
theorem results_run {fn : Func} {tmps : Array Value} {ys : List Value} (hl : ys.length = fn.results.toList.length) (h : ∀ (i : Nat) (r : ResultVar) (y : Value), fn.results.toList[i]? = some r → ys[i]? = some y → ResIs P w tmps r y) :
    (results fn tmps).run P w = .ok (packX ys) w := by
  have key : ∀ (rs : List ResultVar) (ys : List Value), ys.length = rs.length → (∀ (i : Nat) (r : ResultVar) (y : Value), rs[i]? = some r → ys[i]? = some y → ResIs P w tmps r y) →
      (rs.mapM (resF tmps)).run P w = .ok ys w := by
    intro rs
    induction rs with
    | nil => intro ys hl _; cases ys <;> simp at hl ⊢
    | cons r rs ih =>
      intro ys hl h
      cases ys with
      | nil => simp at hl
      | cons y ys =>
        have h1 := ih ys (by simpa using hl) fun i r y hr hy => h (i + 1) r y (by simpa using hr) (by simpa using hy)
        have h0 := resF_run (h 0 r y rfl rfl)
        rw [List.mapM_cons]
        simp only [Sem.run_bind, h0, Result.andThen_ok, h1, Sem.run_pure]
  have := key fn.results.toList ys hl h
  rw [results_eq, Array.mapM_eq_mapM_toList]
  simp only [Sem.run_bind, Sem.run_map, this, Result.andThen_ok, Sem.run_pure]
  congr 1
  cases ys with
  | nil => rfl
  | cons y ys => cases ys with
    | nil => rfl
    | cons z ys => simp [packX]
theorem CoreS.extend (hC : CoreS n E σ [] ts [] H) : CoreS (n + 1) E { σ with slots := σ.slots ++ [.gone 0] } [] (ts ++ [undef]) [] H := by
  have h0 := hC.core
  simp only [List.append_nil] at h0
  have h1 := h0.push (v := .gone 0) (x := undef) ⟨trivial, fun i u y hu _ => by
    cases i with
    | zero => simp [V.leaves] at hu; subst hu; trivial
    | succ i => simp [V.leaves] at hu⟩ (by intro r hr; simp [V.refs, V.leaves, V.refs1] at hr)
  refine ⟨by simp [hC.sl], by simp [hC.tl], ?_⟩
  simp only [List.append_nil]
  exact ⟨h1.len, by simp [hC.sl], h1.slot, h1.obj, h1.fresh, fun s v hv r hr => ⟨fun t i e => by have := (h1.refs s v hv r hr).1 t i e; omega, (h1.refs s v hv r hr).2⟩⟩
end
end Go.Vq
namespace Go.Vq
theorem flat_pos {α β : Type} (f : α → List β) : ∀ (l : List α) (j : Nat) (z : β), (l.flatMap f)[j]? = some z → ∃ k i v, l[k]? = some v ∧ (f v)[i]? = some z ∧ j = ((l.take k).flatMap f).length + i
  | [], j, z, h => by simp at h
  | v :: l, j, z, h => by
    rw [List.flatMap_cons] at h
    rcases Nat.lt_or_ge j (f v).length with hj | hj
    · rw [List.getElem?_append_left hj] at h
      exact ⟨0, j, v, rfl, h, by simp⟩
    · rw [List.getElem?_append_right hj] at h
      obtain ⟨k, i, u, h1, h2, h3⟩ := flat_pos f l _ z h
      refine ⟨k + 1, i, u, by simpa using h1, h2, ?_⟩
      simp only [List.take_succ_cons, List.flatMap_cons, List.length_append]
      omega
theorem flat_len2 {α γ β δ : Type} (f : α → List β) (g : γ → List δ) : ∀ (l : List α) (m : List γ), l.length = m.length → (∀ (k : Nat) (v : α) (x : γ), l[k]? = some v → m[k]? = some x → (f v).length = (g x).length) → (l.flatMap f).length = (m.flatMap g).length
  | [], [], _, _ => rfl
  | [], _ :: _, h, _ => by simp at h
  | _ :: _, [], h, _ => by simp at h
  | v :: l, x :: m, h, hc => by
    have h1 := hc 0 v x rfl rfl
    have h2 := flat_len2 f g l m (by simpa using h) fun k v x hv hx => hc (k + 1) v x (by simpa using hv) (by simpa using hx)
    rw [List.flatMap_cons, List.flatMap_cons, List.length_append, List.length_append, h1, h2]
def packV : List V → V
  | [v] => v
  | vs => .tup vs
def packHome (N : Nat) (us : List V) : Home → Home
  | .slot s i => if N ≤ s then .slot N (((us.take (s - N)).flatMap V.cells).length + i) else .slot s i
  | h => h
section
variable {P : Program} {n base : Nat} {E E' E2 : Env} {σ σ' : St} {hs : List V} {ts xs : List Value} {H H' H2 : Array Go.Obj}
variable {a : Act} {w : World} {G : VProg}
theorem CoreS.pack {us : List V} {ys : List Value} (hC : CoreS n E σ us ts ys H) (hu : ∀ u ∈ us, (u.leaf = true ∨ ∃ cs, u = .agg cs) ∧ ∀ g, u ≠ .gone g) :
    ∃ E1, CoreS n E1 σ [packV us] ts [packX ys] H ∧ Grow base E H E1 H ∧ ∀ z ∈ (packV us).leaves, z ∈ us.flatMap V.leaves := by
  have hl := hC.hl
  by_cases h1 : ∃ u y, us = [u] ∧ ys = [y]
  · obtain ⟨u, y, rfl, rfl⟩ := h1
    exact ⟨E, hC, Grow.refl _ _ _, fun z hz => List.mem_flatMap.2 ⟨u, by simp, hz⟩⟩
  · have hp : packV us = .tup us ∧ packX ys = .tuple ys.toArray := by
      cases us with
      | nil => cases ys with
        | nil => exact ⟨rfl, rfl⟩
        | cons => simp at hl
      | cons u us => cases ys with
        | nil => simp at hl
        | cons y ys => cases us with
          | nil => cases ys with
            | nil => exact absurd ⟨u, y, rfl, rfl⟩ h1
            | cons => simp at hl
          | cons u2 us => cases ys with
            | nil => simp at hl
            | cons => exact ⟨rfl, rfl⟩
    rw [hp.1, hp.2]
    have hS : ∀ (k : Nat) (u : V) (y : Value), us[k]? = some u → ys[k]? = some y → SlotRel E (σ.slots ++ us) σ.objs (ts ++ ys) H (n + k) u y := by
      intro k u y hk hy
      exact hC.core.slot (n + k) u y (by rw [List.getElem?_append_right (by rw [hC.sl]; omega), hC.sl, Nat.add_sub_cancel_left]; exact hk) (by rw [List.getElem?_append_right (by rw [hC.tl]; omega), hC.tl, Nat.add_sub_cancel_left]; exact hy)
    have hcl : ∀ u ∈ us, u.cells = u.leaves := by
      intro u hm
      rcases (hu u hm).1 with h | ⟨cs, rfl⟩
      · rw [cells_leaf h, leaves_leaf h]
      · rfl
    have hsh : ∀ (k : Nat) (u : V) (y : Value), us[k]? = some u → ys[k]? = some y → Shape1 u y ∧ vcells y = vleaves y := by
      intro k u y hk hy
      have hS1 := hS k u y hk hy
      obtain ⟨h2, h3⟩ := hu u (List.mem_of_getElem? hk)
      rcases h2 with h | ⟨cs, rfl⟩
      · have hx := leaf_shape h h3 hS1.1
        have hax : aggX y = false := by cases y <;> first | rfl | simp [leafX] at hx
        exact ⟨(shape1_leaf h).2 hax, by rw [vcells_leaf hax, vleaves_leaf hx]⟩
      · obtain ⟨zs, rfl, h4⟩ := hS1.1
        exact ⟨⟨zs, rfl, h4⟩, rfl⟩
    have hcnt : ∀ (k : Nat) (u : V) (y : Value), us[k]? = some u → ys[k]? = some y → u.cells.length = (vcells y).length := fun k u y hk hy => shape1_len (hsh k u y hk hy).1
    have hoff : ∀ k, ((us.take k).flatMap V.cells).length = ((ys.take k).flatMap vcells).length := by
      intro k
      refine flat_len2 _ _ _ _ (by simp [hl]) fun j v x hv hx => ?_
      have hj := lt_of_getElem? hv
      simp only [List.length_take] at hj
      rw [List.getElem?_take_of_lt (by omega)] at hv hx
      exact hcnt j v x hv hx
    have := CoreS.join (hs := []) (xs := []) (vs := us) (ys := ys) (p := .tup us) (xp := .tuple ys.toArray) (f := packHome n us) hC rfl ?_ ?_ ?_ ?_ ?_
    · refine ⟨_, this, Grow.retag _ _ _ _, fun z hz => ?_⟩
      obtain ⟨u, hm, hz⟩ := List.mem_flatMap.1 (show z ∈ us.flatMap V.cells from hz)
      rw [hcl u hm] at hz
      exact List.mem_flatMap.2 ⟨u, hm, hz⟩
    · exact ⟨ys.toArray, rfl, by simpa using hl, fun i v x hv hx => (hsh i v x hv (by simpa using hx)).1⟩
    · intro j u y hju hjy
      obtain ⟨k, i, v, e1, e2, e3⟩ := flat_pos V.cells us j u hju
      obtain ⟨x, hx⟩ := exists_getElem? (l := ys) (i := k) (by have := lt_of_getElem? e1; omega)
      have hil := lt_of_getElem? e2
      rw [hcnt k v x e1 hx] at hil
      obtain ⟨z, hz⟩ := exists_getElem? hil
      have h5 := flat_at vcells hx hz
      rw [← hoff, ← e3] at h5
      have hy2 : (ys.flatMap vcells)[j]? = some y := by simpa [vleaves] using hjy
      rw [hy2] at h5; cases h5
      refine ⟨k, i, v, x, e1, hx, by rw [← hcl v (List.mem_of_getElem? e1)]; exact e2, by rw [← (hsh k v x e1 hx).2]; exact hz, fun _ => ?_⟩
      simp only [packHome, List.length_nil, Nat.add_zero]
      rw [if_pos (by omega), Nat.add_sub_cancel_left, e3]
    · intro u hm
      obtain ⟨v, hv, hz⟩ := List.mem_flatMap.1 (show u ∈ us.flatMap V.cells from hm)
      exact ⟨v, hv, by rw [← hcl v hv]; exact hz⟩
    · intro s i h
      simp only [List.length_nil, Nat.add_zero] at h
      simp only [packHome]; rw [if_neg (by omega)]
    · intro o i; rfl
theorem ren_zero {f : Nat → Option Nat} {u u' : V} (h : V.ren f (zero1 u) = some u') : zero1 u' = u' := by
  cases u <;> simp only [zero1, V.ren, Option.some.injEq, reduceCtorEq, Option.map_eq_some_iff] at h <;> first
    | (subst h; rfl)
    | (obtain ⟨_, _, rfl⟩ := h; rfl)
theorem Grow.sub {ids : List Nat} {N : Nat} (hids : ids.take base = List.range base) : Grow base E H (E.sub ids N) H := by
  refine ⟨Nat.le_refl _, fun b i h => ⟨Env.sub_imm h, rfl⟩, fun b _ h => ⟨by simp only [Env.sub, h, subTag], rfl⟩, fun b h => ⟨by simp only [Env.sub, h, subTag], rfl⟩, fun b m h => ⟨by simp only [Env.sub, h, subTag], rfl⟩, fun o ho => ?_⟩
  have : ids[o]? = some o := by
    have h1 : (ids.take base)[o]? = some o := by rw [hids]; simp [ho]
    rw [List.getElem?_take_of_lt ho] at h1; exact h1
  simp only [Env.sub, List.getD_eq_getElem?_getD, this, Option.getD_some]
theorem finish_sound {fn : Func} {vf : VFunc} {r : V} {os : List Obj} (hres : fn.results.toList.mapM (cRes P) = some vf.results) (hn : vf.ntmps = n) (hC : CoreS n E σ [] a.tmps.toList [] w.heap) (hf : finish vf base σ = some (r, os)) :
    ∃ x E', (results fn a.tmps).run P w = .ok x w ∧ Core 0 E' [r] (os.map some) [x] w.heap ∧ Grow base E w.heap E' w.heap ∧ ∀ (k : Nat) (cs : List V), os[k]? = some (.cells cs) → ∀ u ∈ cs, zero1 u = u := by
  unfold finish at hf
  split at hf
  · rename_i σ' hrun
    split at hf
    · rename_i ids hids
      split at hf
      · rename_i hcnd
        obtain ⟨hnd, htake⟩ := hcnd
        split at hf
        · rename_i r' os' hren hos
          cases hf
          subst hn
          have hC1 := hC.extend
          let a1 : Act := { a with tmps := a.tmps.push undef }
          have ht1 : a1.tmps.toList = a.tmps.toList ++ [undef] := by simp [a1]
          rw [← ht1] at hC1
          unfold resProg at hrun
          obtain ⟨E1, σ1, us, ys, b1, b2, b3, b4, b5, b6, b7⟩ := getRess_sound (a := a1) (base := base) hres hC1 hrun
          simp only [List.nil_append] at b1
          obtain ⟨b3, hval⟩ := gTheres_run b3
          simp only [Prog.run, Option.some.injEq] at b3
          have hrs : σ'.slot vf.ntmps = packV us := by
            rw [← b3]
            have hlt : vf.ntmps < σ1.slots.length := by rw [b1.sl]; omega
            have : (σ1.setS vf.ntmps (packV us)).slot vf.ntmps = packV us := by
              simp only [St.setS, St.slot, List.getD_eq_getElem?_getD, List.getElem?_set_self hlt, Option.getD_some]
            rw [← this]
            cases us with
            | nil => rfl
            | cons u us => cases us <;> rfl
          have hobjs : σ'.objs = σ1.objs := by rw [← b3]; rfl
          rw [hrs] at hren
          obtain ⟨E2, c1, c2, c3⟩ := b1.pack (base := base) b7
          have hcore := c1.core
          have hrens : rens (findIdx ids) [packV us] = some [r] := by simp [rens, hren]
          have hmg := mapM_get hos
          obtain ⟨m1, m2⟩ := hmg
          have hobj : ∀ (k o : Nat), ids[k]? = some o → ∃ cs cs', σ1.objs[o]? = some (some (.cells cs)) ∧ os[k]? = some (.cells cs') ∧ rens (findIdx ids) (cs.map zero1) = some cs' := by
            intro k o ho
            obtain ⟨y, h1, h2⟩ := m2 k o ho
            obtain ⟨x, h3, h4⟩ := Option.bind_eq_some_iff.1 h1
            obtain ⟨cs, cs', rfl, rfl, h5⟩ := objRen_cells h4
            have h6 := obj_some h3
            rw [hobjs] at h6
            exact ⟨cs, cs', h6, h2, h5⟩
          have hsub := hcore.sub (ids := ids) (objs' := os.map some) (hs := [packV us]) (hs' := [r]) (by rw [c1.sl, c1.tl]) hnd (by simp [m1]) (fun k o ho => by
            obtain ⟨cs, cs', h1, h2, h3⟩ := hobj k o ho
            exact ⟨cs, cs', h1, by rw [List.getElem?_map, h2]; rfl, h3⟩) hrens (fun v hv u hu h g sz i off e => by
            simp only [List.mem_singleton] at hv
            subst hv
            obtain ⟨z, hz, hg⟩ := hval u (c3 u hu) h g sz i off e
            obtain ⟨d4, _⟩ := ct_real' (hs := [packV us]) c1.sl hz (by rintro g rfl; cases hg)
            exact ⟨z, d4, hg⟩)
          refine ⟨packX ys, _, ?_, hsub, (b2.trans c2).trans (Grow.sub htake), fun k cs hk u hu => ?_⟩
          · refine results_run b5 fun i rv y hrv hy => ?_
            have := b6 i rv y hrv hy
            cases rv with
            | tmp t =>
              simp only [ResIs] at this ⊢
              rw [← this]
              simp only [a1, Array.getD_eq_getD_getElem?, Array.getElem?_push]
              split
              · rename_i e; subst e; simp
              · rfl
            | cell c t =>
              obtain ⟨ad, e1, e2⟩ := this
              refine ⟨ad, ?_, e2⟩
              rw [← e1]
              simp only [a1, Array.getD_eq_getD_getElem?, Array.getElem?_push]
              split
              · rename_i e; subst e; simp
              · rfl
          · obtain ⟨o, ho⟩ := exists_getElem? (l := ids) (i := k) (by have := lt_of_getElem? hk; omega)
            obtain ⟨cs0, cs', h1, h2, h3⟩ := hobj k o ho
            rw [hk] at h2; cases h2
            obtain ⟨i, hi⟩ := List.mem_iff_getElem?.1 hu
            obtain ⟨q1, q2⟩ := rens_get h3
            obtain ⟨u0, hu0⟩ := exists_getElem? (l := cs0.map zero1) (i := i) (by have := lt_of_getElem? hi; omega)
            have h4 := q2 i u0 u hu0 hi
            rw [List.getElem?_map] at hu0
            obtain ⟨u1, _, rfl⟩ := Option.map_eq_some_iff.1 hu0
            exact ren_zero h4
        · cases hf
      · cases hf
    · cases hf
  · cases hf
end
end Go.Vq
namespace Go.Vq
section
variable {n : Nat} {E : Env} {slots : List V} {objs : List (Option Obj)} {vals : List Value} {H : Array Go.Obj}
theorem Core.gones (hC : Core n E slots objs vals H) : ∀ m : Nat, Core n E (slots ++ List.replicate m (.gone 0)) objs (vals ++ List.replicate m undef) H
  | 0 => by simpa using hC
  | m + 1 => by
    have h := (hC.gones m).push (v := .gone 0) (x := undef) ⟨trivial, fun i u y hu _ => by
      cases i with
      | zero => simp [V.leaves] at hu; subst hu; trivial
      | succ i => simp [V.leaves] at hu⟩ (by intro r hr; simp [V.refs, V.leaves, V.refs1] at hr)
    rw [List.replicate_succ', List.replicate_succ', ← List.append_assoc, ← List.append_assoc]
    exact h
theorem nones_get {o m : Nat} {x : Obj} : (objs ++ List.replicate m none)[o]? = some (some x) ↔ objs[o]? = some (some x) := by
  rcases Nat.lt_or_ge o objs.length with h | h
  · rw [List.getElem?_append_left h]
  · rw [List.getElem?_append_right h, List.getElem?_eq_none h]
    constructor
    · intro h1
      rw [List.getElem?_replicate] at h1
      split at h1 <;> cases h1
    · intro h1; cases h1
theorem ct_nones {m : Nat} {h : Home} : ct slots (objs ++ List.replicate m none) h = ct slots objs h := by
  cases h with
  | slot => rfl
  | obj o i =>
    have h1 := @nones_get objs o m
    simp only [ct]
    cases hx : objs[o]? with
    | none =>
      cases hy : (objs ++ List.replicate m none)[o]? with
      | none => rfl
      | some y => cases y with
        | none => rfl
        | some y => rw [hy] at h1; have := (h1 (x := y)).1 rfl; rw [hx] at this; cases this
    | some x => cases x with
      | none =>
        cases hy : (objs ++ List.replicate m none)[o]? with
        | none => rfl
        | some y => cases y with
          | none => rfl
          | some y => rw [hy] at h1; have := (h1 (x := y)).1 rfl; rw [hx] at this; cases this
      | some x => rw [(h1 (x := x)).2 hx]
theorem Core.nones (hC : Core n E slots objs vals H) (m : Nat) : Core n E slots (objs ++ List.replicate m none) vals H := by
  have hal : ∀ o, alive objs o → alive (objs ++ List.replicate m none) o := fun o ⟨x, hx⟩ => ⟨x, nones_get.2 hx⟩
  have hmv : ∀ {h : Home} {u : V} {y : Value}, RelV E slots objs vals H h u y → RelV E slots (objs ++ List.replicate m none) vals H h u y := by
    intro h u y hR
    refine hR.move (fun _ _ h => ⟨h, rfl⟩) (fun _ b hb => ⟨hb, rfl⟩) (fun _ b k hb => ⟨hb, rfl⟩) (fun o _ h => ⟨rfl, hal o h⟩) (fun o _ _ _ h => ⟨rfl, hal o h⟩) fun r _ sz hv => ⟨?_, rfl⟩
    obtain ⟨w, h1, h2⟩ := hv
    rw [ct_nones] at h1
    exact ⟨w, h1, h2⟩
  refine ⟨hC.len, hC.real, fun s v x hv hx => ⟨(hC.slot s v x hv hx).1, fun i u y hu hy => hmv ((hC.slot s v x hv hx).2 i u y hu hy)⟩, fun o cs ho => ?_, hC.fresh, fun s v hv r hr => ?_⟩
  · obtain ⟨arr, T, f, g1, g2, g3, g4, g5, g6⟩ := hC.obj o cs (nones_get.1 ho)
    exact ⟨arr, T, f, g1, g2, g3, g4, fun i u y hu hy => hmv (g5 i u y hu hy), g6⟩
  · have := hC.refs s v hv r hr
    exact ⟨this.1, by rw [ct_nones]; exact this.2⟩
theorem Core.more {m : Nat} (hC : Core n E slots objs vals H) (h1 : n ≤ m) (h2 : m ≤ slots.length) : Core m E slots objs vals H :=
  ⟨hC.len, h2, hC.slot, hC.obj, hC.fresh, fun s v hv r hr => ⟨fun t i e => Nat.lt_of_lt_of_le ((hC.refs s v hv r hr).1 t i e) h1, (hC.refs s v hv r hr).2⟩⟩
theorem start_core {vf : VFunc} {args : List V} {os : List Obj} (hC : Core 0 E args (os.map some) vals H) (hl : args.length ≤ vf.ntmps) :
    CoreS vf.ntmps E (start vf args os) [] (vals ++ List.replicate (vf.ntmps - args.length) undef) [] H := by
  have hlen := hC.len
  refine ⟨by simp [start]; omega, by simp [← hlen]; omega, ?_⟩
  simp only [List.append_nil]
  exact ((hC.gones _).nones _).more (Nat.zero_le _) (by simp; omega)
end
theorem finish_cells {vf : VFunc} {base : Nat} {σ : St} {r : V} {os : List Obj} (hf : finish vf base σ = some (r, os)) {k : Nat} {x : Obj} (hk : os[k]? = some x) : ∃ cs, x = .cells cs := by
  unfold finish at hf
  split at hf
  · split at hf
    · rename_i ids hids
      split at hf
      · split at hf
        · rename_i r' os' hren hos
          cases hf
          obtain ⟨m1, m2⟩ := mapM_get hos
          obtain ⟨o, ho⟩ := exists_getElem? (l := ids) (i := k) (by have := lt_of_getElem? hk; omega)
          obtain ⟨y, h1, h2⟩ := m2 k o ho
          rw [hk] at h2
          cases h2
          obtain ⟨z, _, h3⟩ := Option.bind_eq_some_iff.1 h1
          obtain ⟨_, cs, _, e, _⟩ := objRen_cells h3
          exact ⟨cs, e⟩
        · cases hf
      · cases hf
    · cases hf
  · cases hf
theorem finish_zero {vf : VFunc} {base : Nat} {σ : St} {r : V} {os : List Obj} (hf : finish vf base σ = some (r, os)) (k : Nat) (cs : List V) (hk : os[k]? = some (.cells cs)) : ∀ u ∈ cs, zero1 u = u := by
  intro u hu
  unfold finish at hf
  split at hf
  · split at hf
    · rename_i ids hids
      split at hf
      · split at hf
        · rename_i r' os' hren hos
          cases hf
          obtain ⟨m1, m2⟩ := mapM_get hos
          obtain ⟨o, ho⟩ := exists_getElem? (l := ids) (i := k) (by have := lt_of_getElem? hk; omega)
          obtain ⟨y, h1, h2⟩ := m2 k o ho
          rw [hk] at h2; cases h2
          obtain ⟨x, h3, h4⟩ := Option.bind_eq_some_iff.1 h1
          obtain ⟨cs0, cs', rfl, e, h5⟩ := objRen_cells h4
          cases e
          obtain ⟨i, hi⟩ := List.mem_iff_getElem?.1 hu
          obtain ⟨q1, q2⟩ := rens_get h5
          obtain ⟨u0, hu0⟩ := exists_getElem? (l := cs0.map zero1) (i := i) (by have := lt_of_getElem? hi; omega)
          have h6 := q2 i u0 u hu0 hi
          rw [List.getElem?_map] at hu0
          obtain ⟨u1, _, rfl⟩ := Option.map_eq_some_iff.1 hu0
          exact ren_zero h6
        · cases hf
      · cases hf
    · cases hf
  · cases hf
structure GOk (P : Program) (G : VProg) : Prop where
  code : ∀ f vf, G f = some (.code vf) → ∃ fn, P.funcs[f]? = some fn ∧ cFunc P fn = some vf.strip ∧ (fn.name == "runtime.NumGoroutine") = false
  prim : ∀ f run, G f = some (.prim run) → ∀ args objs r os, run args objs = some (r, os) → EnterOk P f ∧ Behaves P f args objs r os
  iter : ∀ f run, G f = some (.iter run) → IterOk P f run
theorem leaves_marks {F : Fence} {n : Nat} {P : Program} {fn : Func} {tmps : Array Value} {R : Ending → World → Prop} : ∀ (ms : List Nat) (w : World), ms.Nodup → (∀ D ∈ ms, w.heap[D]? = some (.deferred (some []))) →
    (∀ w' : World, w'.heap.size = w.heap.size → (∀ b, b ∉ ms → w'.heap[b]? = w.heap[b]?) → w'.os = w.os → w'.output = w.output → w'.tape = w.tape → ∃ v, (results fn tmps).run P w' = .ok v w' ∧ R (.returned v) w') →
    LeavesInM F n P fn tmps R (ms.map fun D => { target := .collected D, args := #[] }) .returning w
  | [], w, _, _, h => by
    obtain ⟨v, h1, h2⟩ := h w rfl (fun _ _ => rfl) rfl rfl rfl
    exact ⟨v, h1, h2⟩
  | D :: ms, w, hn, hd, h => by
    have hD := hd D (by simp)
    refine ⟨by simp, .inl ⟨D, _, rfl, run_takeDeferred hD, leaves_marks ms _ (List.nodup_cons.1 hn).2 (fun D' h' => ?_) fun w' h1 h2 h3 h4 h5 => ?_⟩⟩
    · refine (World.putObj_heap_other ?_).trans (hd D' (List.mem_cons_of_mem _ h'))
      rintro rfl
      exact (List.nodup_cons.1 hn).1 h'
    · refine h w' (by simpa using h1) (fun b hb => ?_) h3 h4 h5
      rw [List.mem_cons, not_or] at hb
      exact (h2 b hb.2).trans (World.putObj_heap_other hb.1)
theorem call_sound {P : Program} {G : VProg} (hG : GOk P G) : ∀ M : Nat, CalleeOk P (call G M) := by
  intro M
  induction M using Nat.strongRecOn with
  | _ M ih =>
    intro f args objs r os hcall
    unfold call callWith at hcall
    split at hcall
    · rename_i vf hf
      obtain ⟨fn, h1, h2, h3⟩ := hG.code f vf hf
      unfold cFunc at h2
      simp only [Option.bind_eq_bind, Option.pure_def] at h2
      obtain ⟨c, hb, h2⟩ := Option.bind_eq_some_iff.1 h2
      obtain ⟨⟨m, body⟩, hcc, h2⟩ := Option.bind_eq_some_iff.1 h2
      obtain ⟨res, hres, h2⟩ := Option.bind_eq_some_iff.1 h2
      simp only [Option.some.injEq] at h2
      have e1 : vf.ntmps = fn.ntmps := by have := congrArg VFunc.ntmps h2; simpa [VFunc.strip] using this.symm
      have e2 : vf.results = res := by have := congrArg VFunc.results h2; simpa [VFunc.strip] using this.symm
      have e3 : body = vf.body.strip := by have := congrArg VFunc.body h2; simpa [VFunc.strip] using this
      subst e2 e3
      split at hcall
      · rename_i hargs
        obtain ⟨hna, hnt⟩ := hargs
        have hfin : ∃ out σ', exec G M objs.length vf.body (start vf args objs) = some (out, σ') ∧ (out = .normal ∨ out = .ret) ∧ finish vf objs.length σ' = some (r, os) := by
          split at hcall
          · exact ⟨_, _, by assumption, .inl rfl, hcall⟩
          · exact ⟨_, _, by assumption, .inr rfl, hcall⟩
          · cases hcall
        obtain ⟨out, σ', hexec, hout, hfin⟩ := hfin
        have hent : EnterOk P f := ⟨fn, h1, by rw [hb]; rfl, h3⟩
        cases M with
        | zero => simp only [exec] at hexec; cases hexec
        | succ k =>
          simp only [exec] at hexec
          change step (call G k) (itersOf G) (exec G k) objs.length vf.body (start vf args objs) = some (out, σ') at hexec
          have hcallee : ∀ j, j ≤ k → CalleeOk P (call G j) := fun j hj => ih j (by omega)
          refine ⟨hent, behaves_of (finish_zero hfin) (fun k x hk => finish_cells hfin hk) fun E vals w hcore => ?_⟩
          have hst := start_core (vf := vf) hcore (by omega)
          have hlen := hcore.len
          refine (callsIn_fw (r := none) (n := 0)).1 (callsIn_of_wp_marks h1 hb trivial ?_)
          have htm : (vals.toArray ++ Array.replicate (fn.ntmps - vals.toArray.size) undef).toList = vals ++ List.replicate (vf.ntmps - args.length) undef := by simp [e1, hlen]
          rw [← htm] at hst
          refine code_sound (base := objs.length) (ro := none) (nf := 0) (Q := bodyPostM (Fw none) 0 P fn (RetOk objs.length E w r os)) hcallee hG.iter c hcc (fun _ => rfl) (Nat.le_refl _) (a := { tmps := vals.toArray ++ Array.replicate (fn.ntmps - vals.toArray.size) undef, defers := [] }) hexec hst fun E1 a1 w1 c1 c2 c3 c4 => ?_
          obtain ⟨ms, hms, hnd, hD⟩ := c4
          have hle : LeavesInM (Fw none) 0 P fn a1.tmps (RetOk objs.length E w r os) a1.defers .returning w1 := by
            simp only [List.append_nil] at hms
            rw [hms]
            refine leaves_marks ms w1 hnd (fun D h => (hD D h).2.2) fun w' q1 q2 q3 q4 q5 => ?_
            have c1' : CoreS vf.ntmps E1 σ' [] a1.tmps.toList [] w'.heap := by
              have h0 := c1.core
              refine ⟨c1.sl, c1.tl, h0.change rfl (fun b i hi => ⟨hi, ?_⟩) (fun b t ht hc => ⟨ht, ?_⟩) (fun b hb => h0.fresh b (by rw [← q1]; exact hb))⟩
              · unfold cellAt
                rw [q2 b fun h => by have := (hD b h).2.1; simp [Env.imm, this] at hi]
              · refine q2 b fun h => ?_
                have := (hD b h).2.1
                rw [ht] at this
                rcases hc with ⟨o, e⟩ | ⟨h, e | ⟨m, e⟩, _⟩ <;> rw [e] at this <;> cases this
            have c2' : Grow objs.length E w.heap E1 w'.heap := by
              have hsame : ∀ b, b < w.heap.size → w'.heap[b]? = w1.heap[b]? := fun b hb => q2 b fun h => by have := (hD b h).1; omega
              have hlt : ∀ b, E.tag b ≠ .other → b < w.heap.size := fun b h => by
                rcases Nat.lt_or_ge b w.heap.size with h1 | h1
                · exact h1
                · exact absurd (hcore.fresh b h1) h
              refine ⟨by rw [q1]; exact c2.size, fun b i hi => ?_, fun b hb ho => ⟨(c2.other b hb ho).1, (hsame b hb).trans (c2.other b hb ho).2⟩, fun b hi => ⟨(c2.immT b hi).1, (hsame b (hlt b (by rw [hi]; simp))).trans (c2.immT b hi).2⟩,
                fun b k hi => ⟨(c2.lentT b k hi).1, (hsame b (hlt b (by rw [hi]; simp))).trans (c2.lentT b k hi).2⟩, c2.addr⟩
              refine ⟨(c2.imm b i hi).1, ?_⟩
              unfold cellAt
              rw [hsame b (hlt b (by intro e; simp [Env.imm, e] at hi))]
              exact (c2.imm b i hi).2
            obtain ⟨x, E2, d1, d2, d3, _⟩ := finish_sound (base := objs.length) hres rfl c1' hfin
            exact ⟨x, d1, E2, d2, c2'.trans d3, ⟨q3.trans c3.os, q4.trans c3.output, q5.trans c3.tape⟩⟩
          rcases hout with rfl | rfl <;> exact hle
      · cases hcall
    · rename_i run hf
      exact hG.prim f run hf args objs r os hcall
    · cases hcall
    · cases hcall
end Go.Vq
namespace Go.Vq
abbrev Keeps := List (Option (List Nat))
def VCode.keep : VCode → Keeps → VCode × Keeps
  | .seq a b, ks => let r := a.keep ks; let q := b.keep r.2; (.seq r.1 q.1, q.2)
  | .cond c a b, ks => let r := a.keep ks; let q := b.keep r.2; (.cond c r.1 q.1, q.2)
  | .block i _ a, ks => let r := a.keep ks.tail; (.block i (ks.headD none) r.1, r.2)
  | .loop _ a, ks => let r := a.keep ks.tail; (.loop (ks.headD none) r.1, r.2)
  | .range x ps s _ a b, ks => let r := a.keep ks.tail; let q := b.keep r.2; (.range x ps s (ks.headD none) r.1 q.1, q.2)
  | c, ks => (c, ks)
def VOper.setAp (ap : FuncId → CallM) (o : VOper) : VOper := match o.op with
  | .call _ f s as => { o with op := (ap f).op f s as }
  | _ => o
def VOper.setIb (o : VOper) : VOper := match o.op with
  | .box s n x => { o with op := .ibox s n x }
  | _ => o
def VCode.setIb : VCode → VCode
  | .region ops d => .region (ops.map VOper.setIb) d
  | .seq a b => .seq a.setIb b.setIb
  | c => c
def VCode.setAp (ap : FuncId → CallM) : VCode → VCode
  | .region ops d => .region (ops.map (VOper.setAp ap)) d
  | .seq a b => .seq (a.setAp ap) (b.setAp ap)
  | .cond c a b => .cond c (a.setAp ap) (b.setAp ap)
  | .block i k a => .block i k (a.setAp ap)
  | .loop k a => .loop k (a.setAp ap)
  | .range x ps s k a b => .range x ps s k (a.setAp ap) (b.setAp ap)
  | c => c
theorem keep_strip : ∀ (c : VCode) (ks : Keeps), (c.keep ks).1.strip = c.strip
  | .skip, ks => rfl
  | .region .., ks => rfl
  | .seq a b, ks => by simp only [VCode.keep, VCode.strip, keep_strip a, keep_strip b]
  | .cond c a b, ks => by simp only [VCode.keep, VCode.strip, keep_strip a, keep_strip b]
  | .block i _ a, ks => by simp only [VCode.keep, VCode.strip, keep_strip a]
  | .loop k a, ks => by simp only [VCode.keep, VCode.strip, keep_strip a]
  | .range x ps s k a b, ks => by simp only [VCode.keep, VCode.strip, keep_strip a, keep_strip b]
  | .exit .., ks => rfl
  | .ret, ks => rfl
  | .bad, ks => rfl
theorem setAp_oper (ap : FuncId → CallM) (o : VOper) : (o.setAp ap).strip = o.strip := by
  unfold VOper.setAp
  split
  · rename_i h; simp only [VOper.strip, h, VOp.strip]; cases ap _ <;> rfl
  · rfl
theorem setIb_oper (o : VOper) : o.setIb.strip = o.strip := by
  unfold VOper.setIb
  split
  · rename_i h; simp only [VOper.strip, h, VOp.strip]
  · rfl
theorem setIb_strip : ∀ c : VCode, c.setIb.strip = c.strip
  | .skip => rfl
  | .region ops d => by
    simp only [VCode.setIb, VCode.strip, List.map_map]
    congr 1
    exact List.map_congr_left fun o _ => setIb_oper o
  | .seq a b => by simp only [VCode.setIb, VCode.strip, setIb_strip a, setIb_strip b]
  | .cond c a b => rfl
  | .block i k a => rfl
  | .loop k a => rfl
  | .range x ps s k a b => rfl
  | .exit .. => rfl
  | .ret => rfl
  | .bad => rfl
theorem setAp_strip (ap : FuncId → CallM) : ∀ c : VCode, (c.setAp ap).strip = c.strip
  | .skip => rfl
  | .region ops d => by
    simp only [VCode.setAp, VCode.strip, List.map_map]
    congr 1
    exact List.map_congr_left fun o _ => setAp_oper ap o
  | .seq a b => by simp only [VCode.setAp, VCode.strip, setAp_strip ap a, setAp_strip ap b]
  | .cond c a b => by simp only [VCode.setAp, VCode.strip, setAp_strip ap a, setAp_strip ap b]
  | .block i k a => by simp only [VCode.setAp, VCode.strip, setAp_strip ap a]
  | .loop k a => by simp only [VCode.setAp, VCode.strip, setAp_strip ap a]
  | .range x ps s k a b => by simp only [VCode.setAp, VCode.strip, setAp_strip ap a, setAp_strip ap b]
  | .exit .. => rfl
  | .ret => rfl
  | .bad => rfl
section
variable {P : Program}
theorem strip_strip (v : VOp) : v.strip.strip = v.strip := by cases v <;> rfl
theorem cOps_strip {all : Array Oper} : ∀ {os : List Oper} {vs : List VOper} {site m : Nat} {done : List Nat}, cOps P all site done os = some (m, vs) → vs.map VOper.strip = vs
  | [], vs, site, m, done, h => by simp only [cOps, Option.some.injEq, Prod.mk.injEq] at h; obtain ⟨_, rfl⟩ := h; rfl
  | o :: os, vs, site, m, done, h => by
    simp only [cOps, Option.bind_eq_bind, Option.pure_def] at h
    obtain ⟨g, hg, h⟩ := Option.bind_eq_some_iff.1 h
    split at h
    · cases h
    · obtain ⟨⟨m', rest⟩, hrest, h⟩ := Option.bind_eq_some_iff.1 h
      simp only [Option.some.injEq, Prod.mk.injEq] at h
      obtain ⟨_, rfl⟩ := h
      simp only [List.map_cons, cOps_strip hrest, VOper.strip, strip_strip]
theorem cCode_strip : ∀ (c : Code) {r : Bool} {site m : Nat} {v : VCode}, cCode P r site c = some (m, v) → v.strip = v
  | .skip, r, site, m, v, h => by simp only [cCode, Option.some.injEq, Prod.mk.injEq] at h; obtain ⟨_, rfl⟩ := h; rfl
  | .region id ops draw, r, site, m, v, h => by
    simp only [cCode, Option.bind_eq_bind, Option.pure_def] at h
    obtain ⟨⟨m1, l1⟩, h1, h⟩ := Option.bind_eq_some_iff.1 h
    split at h
    · cases h
    cases h
    simp only [VCode.strip, cOps_strip h1]
  | .seq x y, r, site, m, v, h => by
    simp only [cCode, Option.bind_eq_bind, Option.pure_def] at h
    obtain ⟨⟨m1, l1⟩, h1, h⟩ := Option.bind_eq_some_iff.1 h
    obtain ⟨⟨m2, l2⟩, h2, h⟩ := Option.bind_eq_some_iff.1 h
    cases h
    simp only [VCode.strip, cCode_strip x h1, cCode_strip y h2]
  | .cond c x y, r, site, m, v, h => by
    simp only [cCode, Option.bind_eq_bind, Option.pure_def] at h
    obtain ⟨c', _, h⟩ := Option.bind_eq_some_iff.1 h
    obtain ⟨⟨m1, l1⟩, h1, h⟩ := Option.bind_eq_some_iff.1 h
    obtain ⟨⟨m2, l2⟩, h2, h⟩ := Option.bind_eq_some_iff.1 h
    cases h
    simp only [VCode.strip, cCode_strip x h1, cCode_strip y h2]
  | .block id x, r, site, m, v, h => by
    simp only [cCode, Option.bind_eq_bind, Option.pure_def] at h
    obtain ⟨⟨m1, l1⟩, h1, h⟩ := Option.bind_eq_some_iff.1 h
    cases h
    simp only [VCode.strip, cCode_strip x h1]
  | .loop x, r, site, m, v, h => by
    simp only [cCode, Option.bind_eq_bind, Option.pure_def] at h
    obtain ⟨⟨m1, l1⟩, h1, h⟩ := Option.bind_eq_some_iff.1 h
    cases h
    simp only [VCode.strip, cCode_strip x h1]
  | .scope x, r, site, m, v, h => by simp only [cCode] at h; exact cCode_strip x h
  | .exit id, r, site, m, v, h => by simp only [cCode, Option.some.injEq, Prod.mk.injEq] at h; obtain ⟨_, rfl⟩ := h; rfl
  | .ret, r, site, m, v, h => by simp only [cCode, Option.some.injEq, Prod.mk.injEq] at h; obtain ⟨_, rfl⟩ := h; rfl
  | .rangeFunc g ps x y, false, site, m, v, h => by
    simp only [cCode, Option.bind_eq_bind, Option.pure_def] at h
    obtain ⟨c', _, h⟩ := Option.bind_eq_some_iff.1 h
    obtain ⟨⟨m1, l1⟩, h1, h⟩ := Option.bind_eq_some_iff.1 h
    obtain ⟨⟨m2, l2⟩, h2, h⟩ := Option.bind_eq_some_iff.1 h
    cases h
    simp only [VCode.strip, cCode_strip x h1, cCode_strip y h2]
  | .rangeFunc .., true, site, m, v, h => by simp only [cCode, Option.some.injEq, Prod.mk.injEq] at h; obtain ⟨_, rfl⟩ := h; rfl
  | .label .., r, site, m, v, h => by cases r <;> (simp only [cCode, Option.some.injEq, Prod.mk.injEq] at h; obtain ⟨_, rfl⟩ := h; rfl)
  | .goto .., r, site, m, v, h => by cases r <;> (simp only [cCode, Option.some.injEq, Prod.mk.injEq] at h; obtain ⟨_, rfl⟩ := h; rfl)
  | .refuse .., r, site, m, v, h => by cases r <;> (simp only [cCode, Option.some.injEq, Prod.mk.injEq] at h; obtain ⟨_, rfl⟩ := h; rfl)
theorem cFunc_strip {fn : Func} {v : VFunc} (h : cFunc P fn = some v) : v.strip = v := by
  unfold cFunc at h
  simp only [Option.bind_eq_bind, Option.pure_def] at h
  obtain ⟨c, hb, h⟩ := Option.bind_eq_some_iff.1 h
  obtain ⟨⟨m, body⟩, hcc, h⟩ := Option.bind_eq_some_iff.1 h
  obtain ⟨res, hres, h⟩ := Option.bind_eq_some_iff.1 h
  cases h
  simp only [VFunc.strip, cCode_strip c hcc]
end
abbrev Prim := List V → List Obj → Option (V × List Obj)
def VFunc.ann (ap : FuncId → CallM) (ib : Bool) (ks : Keeps) (v : VFunc) : VFunc := { v with body := (((if ib then v.body.setIb else v.body).setAp ap).keep ks).1 }
def vprog (P : Program) (ap : FuncId → CallM) (ib : FuncId → Bool) (keeps : FuncId → Keeps) (prims : FuncId → Option VDef) : VProg := fun f =>
  match prims f with
  | some run => some run
  | none => match P.funcs[f]? with
    | some fn => if (fn.name == "runtime.NumGoroutine") = true then none else (cFunc P fn).map fun v => .code (v.ann ap (ib f) (keeps f))
    | none => none
def PrimsOk (P : Program) (prims : FuncId → Option VDef) : Prop := ∀ f d, prims f = some d → match d with
  | .prim run => ∀ args objs r os, run args objs = some (r, os) → EnterOk P f ∧ Behaves P f args objs r os
  | .iter run => IterOk P f run
  | .code _ => False
theorem vprog_ok {P : Program} {ap : FuncId → CallM} {ib : FuncId → Bool} {keeps : FuncId → Keeps} {prims : FuncId → Option VDef} (hp : PrimsOk P prims) : GOk P (vprog P ap ib keeps prims) := by
  have hcode : ∀ f d, vprog P ap ib keeps prims f = some d → prims f = some d ∨ ∃ vf fn v, d = .code vf ∧ P.funcs[f]? = some fn ∧ cFunc P fn = some v ∧ vf = v.ann ap (ib f) (keeps f) ∧ (fn.name == "runtime.NumGoroutine") = false := by
    intro f d h
    unfold vprog at h
    split at h
    · rename_i run' hrun
      cases h
      exact .inl hrun
    · split at h
      · rename_i fn hfn
        split at h
        · cases h
        · rename_i hname
          obtain ⟨v, hv, e⟩ := Option.map_eq_some_iff.1 h
          exact .inr ⟨_, fn, v, e.symm, hfn, hv, rfl, by simpa using hname⟩
      · cases h
  refine ⟨fun f vf h => ?_, fun f run h => ?_, fun f run h => ?_⟩
  · rcases hcode f _ h with h | ⟨vf', fn, v, e, h1, h2, h3, h4⟩
    · exact (hp f _ h).elim
    · cases e
      refine ⟨fn, h1, ?_, h4⟩
      rw [h2, h3]
      have := cFunc_strip h2
      simp only [VFunc.strip, VFunc.ann] at this ⊢
      rw [keep_strip, setAp_strip]
      cases ib f with
      | false => exact congrArg some this.symm
      | true => simp only [if_true]; rw [setIb_strip]; exact congrArg some this.symm
  · rcases hcode f _ h with h | ⟨vf', fn, v, e, _⟩
    · exact hp f _ h
    · cases e
  · rcases hcode f _ h with h | ⟨vf', fn, v, e, _⟩
    · exact hp f _ h
    · cases e
end Go.Vq
namespace Go.Vq
def cloneBody (T B : TypeId) : Code :=
  (Code.region 0 #[{ dst := some 2, op := Op.assign (Operand.const (Value.slice none 0 0)), type := T, pos := "slices.go:355", after := #[], guard := none }] false).seq
    (((Code.region 1 #[{ dst := some 3, op := Op.move (Operand.tmp 0), type := T, pos := "slices.go:357", after := #[], guard := none },
          { dst := some 4, op := Op.binOp BinOp.eql T (Operand.tmp 3) (Operand.const (Value.slice none 0 0)) T, type := B, pos := "slices.go:357", after := #[{ on := 0, ground := Ground.data }], guard := none }] false).seq
        (Code.cond (Operand.tmp 4)
          ((Code.region 2 #[{ dst := some 2, op := Op.assign (Operand.const (Value.slice none 0 0)), type := T, pos := "slices.go:358", after := #[], guard := none }] false).seq Code.ret)
          Code.skip)).seq
      ((Code.region 3 #[{ dst := some 5, op := Op.buildSlice T 0 #[], type := T, pos := "slices.go:362", after := #[], guard := none },
          { dst := some 6, op := Op.move (Operand.tmp 0), type := T, pos := "slices.go:362", after := #[], guard := none },
          { dst := some 7, op := Op.call { callee := Callee.builtin Builtin.append, args := #[Operand.tmp 5, Operand.tmp 6], argTypes := #[T, T] }, type := T, pos := "slices.go:362",
            after := #[{ on := 0, ground := Ground.data }, { on := 1, ground := Ground.data }], guard := none },
          { dst := some 2, op := Op.assign (Operand.tmp 7), type := T, pos := "slices.go:362",
            after := #[{ on := 2, ground := Ground.data }, { on := 2, ground := Ground.chain }, { on := 0, ground := Ground.phase }, { on := 1, ground := Ground.phase }, { on := 2, ground := Ground.phase }], guard := none }] false).seq
        Code.ret))
def clonePrim (sz bytes : Nat) : Prim := fun args objs =>
  match args, objs with
  | [.isl _ sz' es], [] => if sz' = sz ∧ es.length * bytes ≤ 140737488355328 then some (.xsl 0 sz es, []) else none
  | _, _ => none
section
variable {P : Program}
theorem wpOps_cons {ops : Array Oper} {Q : Exit → Act → World → Prop} {i : Nat} {rest : List Nat} {a : Act} {w w' : World} {o : Oper} {v : Value} (ho : ops[i]? = some o) (hg : o.guard = none) (hr : (execOp a.eval o).run P w = .ok (.value v) w') (hn : wpOps P ops Q rest (a.put o.dst v) w') : wpOps P ops Q (i :: rest) a w := by
  simp only [wpOps, ho]
  rw [if_pos (by simp [Region.wanted, hg])]
  left
  unfold Oper.wp
  rw [hr]
  exact hn
abbrev act8 (a b c d e f g h : Value) : Act := ⟨#[a, b, c, d, e, f, g, h], []⟩
theorem clone_eq {T e : TypeId} (hT : under P T = some (.slice e)) (a : Option Addr) (l c : Nat) (ox oy : Operand) (w : World) : (do eqGuard BinOp.eql T ox oy (Value.slice a l c) (Value.slice none 0 0); binOp BinOp.eql T (Value.slice a l c) (Value.slice none 0 0) : Sem Value).run P w = .ok (.bool a.isNone) w := by
  have := (EqRun.of_equal (P := P) (w := w) (t := T) (x := .slice a l c) (y := .slice none 0 0) (r := a.isNone) (run_equal_slice_nil w T e _ _ _ hT) (.inl ⟨rfl, by simp⟩) fun op => ⟨fun e => by subst e; rfl, fun e => by subst e; rfl⟩)
  exact (this ox oy).1
theorem clone_walk {f : FuncId} {fn : Func} {T B e : TypeId} {sz bytes : Nat} (h1 : P.funcs[f]? = some fn) (h2 : fn.body = some (cloneBody T B)) (h3 : fn.ntmps = 8) (h4 : fn.results = #[.tmp 2]) (hT : AppT P T T e sz bytes)
    {E : Env} {w : World} {es : List V} {x : Value} (hC : CoreS 0 E ⟨[], []⟩ [] [] [] w.heap) (hx : RelI E.imm w.heap (.isl 0 sz es) x) (hbig : es.length * bytes ≤ 140737488355328) :
    Calls P f #[x] w (RetOk 0 E w (.xsl 0 sz es) []) := by
  obtain ⟨a, cap, hw, hi⟩ := View.of_isl hx
  have hxe := hw.eq
  subst hxe
  refine calls_of_wp h1 h2 ?_
  rw [h3]
  change Code.wp P (cloneBody T B) _ (act8 (.slice a es.length cap) undef undef undef undef undef undef undef) w
  have hret : ∀ {y : Value} {w' : World} {t3 t4 t5 t6 t7 : Value}, RetOk 0 E w (.xsl 0 sz es) [] (.returned y) w' → bodyPost P fn (RetOk 0 E w (.xsl 0 sz es) []) .ret (act8 (.slice a es.length cap) undef y t3 t4 t5 t6 t7) w' := by
    intro y w' t3 t4 t5 t6 t7 h
    refine ⟨rfl, y, ?_, h⟩
    have := results_run (P := P) (w := w') (fn := fn) (tmps := #[.slice a es.length cap, undef, y, t3, t4, t5, t6, t7]) (ys := [y]) (by rw [h4]; rfl) (fun i r z hr hz => by
      rw [h4] at hr
      cases i with
      | succ i => simp at hr
      | zero => simp at hr hz; subst hr hz; rfl)
    exact this
  unfold cloneBody
  refine wp_seq (wp_region ?_)
  refine wpOps_cons (v := .slice none 0 0) (w' := w) rfl rfl rfl ?_
  change Code.wp P _ _ (act8 (.slice a es.length cap) undef (.slice none 0 0) undef undef undef undef undef) w
  refine wp_seq (wp_seq (wp_region ?_))
  refine wpOps_cons (v := .slice a es.length cap) (w' := w) rfl rfl rfl ?_
  refine wpOps_cons (v := .bool a.isNone) (w' := w) rfl rfl ?_ ?_
  · have := clone_eq hT.ht a es.length cap (Operand.tmp 3) (Operand.const (Value.slice none 0 0)) w
    change ((do let v ← (do eqGuard BinOp.eql T (Operand.tmp 3) (Operand.const (Value.slice none 0 0)) (Value.slice a es.length cap) (Value.slice none 0 0); binOp BinOp.eql T (Value.slice a es.length cap) (Value.slice none 0 0)); pure (Next.value v) : Sem Next)).run P w = _
    rw [Sem.run_bind, this]; rfl
  change Code.wp P _ _ (act8 (.slice a es.length cap) undef (.slice none 0 0) (.slice a es.length cap) (.bool a.isNone) undef undef undef) w
  cases a with
  | none =>
    have h0 : es = [] := by
      have := hw.nil rfl
      have := hw.le
      exact List.eq_nil_of_length_eq_zero (by omega)
    subst h0
    refine wp_cond_true rfl (wp_seq (wp_region ?_))
    refine wpOps_cons (v := .slice none 0 0) (w' := w) rfl rfl rfl ?_
    change Code.wp P Code.ret _ (act8 (.slice none 0 cap) undef (.slice none 0 0) (.slice none 0 cap) (.bool true) undef undef undef) w
    refine wp_ret (hret ⟨E, ?_, Grow.refl _ _ _, WSame.refl _⟩)
    have := hC.pushOwn (tail := false) (g := 0) (sz := sz) (es := []) (a := none) (cap := 0) ⟨Nat.le_refl _, fun _ => rfl, fun _ h => (by cases h), fun h => absurd rfl h, Elems.nil _ _ _ _⟩
    exact this.core
  | some ad =>
    refine wp_cond_false rfl (wp_skip ?_)
    change Code.wp P _ _ (act8 (.slice (some ad) es.length cap) undef (.slice none 0 0) (.slice (some ad) es.length cap) (.bool false) undef undef undef) w
    obtain ⟨E1, hC1, hG1⟩ := hC.newOwn (base := 0) (tail := false) (g := 0) (sz := sz) (cap := 0) (es := []) (arr := #[]) (T := e) (f := (0, 0)) (Nat.le_refl _) (by simp) (open_00 _) ⟨fun e h => by simp at h, fun i e j v h => by simp at h⟩
    obtain ⟨news, hsrc⟩ := View.src (P := P) (H := (w.alloc (.cells #[] e)).heap) (imm := E1.imm) (sz := sz) (es := es) (x := .slice (some ad) es.length cap) (a := some ad) (cap := cap) ⟨rfl, hw.le, hw.nil, hw.spot, hw.elems.1, fun i e0 j v h5 h6 => by
      obtain ⟨ad', y, g1, g2, g3⟩ := hw.elems.2 i e0 j v h5 h6
      cases g1
      have himm := hi ad i e0 j rfl h5 (lt_of_getElem? h6)
      have := hG1.imm _ _ himm
      exact ⟨ad, y, rfl, this.2.trans g2, g3.mono hG1.imm⟩⟩
    obtain ⟨E2, w2, y, hrun, hC2, hG2, hW2⟩ := append_own (P := P) (base := 0) (ty := T) (w := w.alloc (.cells #[] e)) (tail := false) (g := 0) (es := []) (fs := es) hT hC1 hsrc (by simpa using hbig)
    refine wp_seq (wp_region ?_)
    refine wpOps_cons (v := .slice (some ⟨w.heap.size, 0, none⟩) 0 0) (w' := w.alloc (.cells #[] e)) rfl rfl ?_ ?_
    · obtain ⟨zs, hz, hzl⟩ := hT.hz
      simp [execOp, Instr.buildSlice, run_under hT.ht, run_size hT.hs, Instr.fill, Go.newRow, show Array.range 0 = #[] from rfl]
    refine wpOps_cons (v := .slice (some ad) es.length cap) rfl rfl rfl ?_
    refine wpOps_cons (v := y) (w' := w2) rfl rfl ?_ ?_
    · rw [builtin_run (c := { callee := Callee.builtin Builtin.append, args := #[Operand.tmp 5, Operand.tmp 6], argTypes := #[T, T] }) (b := .append) rfl rfl]
      simp only [builtin, List.map_toArray, List.map_cons, List.map_nil, Sem.run_bind]
      change ((Builtin.append_ #[T, T] T #[.slice (some ⟨w.heap.size, 0, none⟩) 0 0, .slice (some ad) es.length cap]).run P (w.alloc (.cells #[] e))).andThen _ = _
      have : (Builtin.append_ #[T, T] T #[.slice (some ⟨w.heap.size, 0, none⟩) 0 0, .slice (some ad) es.length cap]).run P (w.alloc (.cells #[] e)) = .ok y w2 := hrun
      rw [this]; rfl
    refine wpOps_cons (v := y) (w' := w2) rfl rfl rfl ?_
    refine wp_ret ?_
    refine hret (t3 := .slice (some ad) es.length cap) (t4 := .bool false) (t5 := .slice (some ⟨w.heap.size, 0, none⟩) 0 0) (t6 := .slice (some ad) es.length cap) (t7 := y) ⟨E2, ?_, hG1.trans hG2, ⟨hW2.os, hW2.output, hW2.tape⟩⟩
    have := hC2.core
    rw [List.nil_append] at this
    exact this
theorem clone_ok {f : FuncId} {fn : Func} {T B e : TypeId} {sz bytes : Nat} (h1 : P.funcs[f]? = some fn) (h2 : fn.body = some (cloneBody T B)) (h3 : fn.ntmps = 8) (h4 : fn.results = #[.tmp 2]) (h5 : (fn.name == "runtime.NumGoroutine") = false) (hT : AppT P T T e sz bytes) :
    ∀ args objs r os, clonePrim sz bytes args objs = some (r, os) → EnterOk P f ∧ Behaves P f args objs r os := by
  intro args objs r os h
  unfold clonePrim at h
  split at h
  · rename_i g sz' es
    split at h
    · rename_i hc
      obtain ⟨rfl, hbig⟩ := hc
      cases h
      refine ⟨⟨fn, h1, by rw [h2]; rfl, h5⟩, fun k cs hk => by simp at hk, fun E vals w hC => ?_⟩
      have hl := hC.len
      cases vals with
      | nil => simp at hl
      | cons x vals =>
        cases vals with
        | cons y vals => simp at hl
        | nil =>
          have hx := (hC.slot 0 _ x rfl rfl).2 0 (.isl g sz' es) x rfl (by
            have := leaf_shape (v := .isl g sz' es) rfl (fun g => by simp) (hC.slot 0 _ x rfl rfl).1
            rw [vleaves_leaf this]; rfl)
          have hx' : RelI E.imm w.heap (.isl 0 sz' es) x := by
            obtain ⟨a, cap, hw, hi⟩ := View.of_isl hx
            exact isl_of_view hw hi
          refine clone_walk h1 h2 h3 h4 hT ⟨rfl, rfl, ⟨rfl, Nat.le_refl _, fun s v x h => by simp at h, fun o cs h => by simp at h, hC.fresh, fun s v h => by simp at h⟩⟩ hx' hbig
    · cases h
  · cases h
end
end Go.Vq
namespace Go.Vq
def env0 (H : Array Go.Obj) : Env := { tag := fun b => if b < H.size then .imm else .other, addr := fun _ => 0 }
theorem core0 (H : Array Go.Obj) : Core 0 (env0 H) [] [] [] H where
  len := rfl
  real := Nat.zero_le _
  slot := fun s v x h _ => by simp at h
  obj := fun o cs h => by simp at h
  fresh := fun b hb => by unfold env0; simp only; rw [if_neg (by omega)]
  refs := fun s v h => by simp at h
structure Still (W w' : World) : Prop where
  kept : W.keptBut w' fun _ => False
  froz : ∀ a : Addr, a.block < W.heap.size → w'.frozen? a = W.frozen? a
theorem still_of {w w' : World} {E' : Env} (h : Grow 0 (env0 w.heap) w.heap E' w'.heap) (hs : WSame w w') : Still w w' := by
  have hold : ∀ b, b < w.heap.size → w'.heap[b]? = w.heap[b]? := fun b hb => (h.immT b (by unfold env0; simp only; rw [if_pos hb])).2
  refine ⟨⟨hs.os, hs.output, fun i hi => ?_⟩, fun a ha => ?_⟩
  · rw [hold i hi]
    cases hx : w.heap[i]? with
    | none => rfl
    | some o => cases o with
      | cells c t fr => exact ⟨rfl, rfl, rfl, fun _ _ => rfl⟩
      | map es cl => exact .inr ⟨rfl, rfl⟩
      | _ => rfl
  · unfold World.frozen?
    rw [hold _ ha]
theorem true_walk {P : Program} {G : VProg} (hG : GOk P G) {f : FuncId} {M : Nat} (h : call G M f [] [] = some (.bool true, [])) (w : World) :
    Calls P f #[] w fun e w' => e = .returned (.bool true) ∧ Still w w' := by
  have hb := (call_sound hG M f [] [] _ _ h).2.2 (env0 w.heap) [] w (core0 w.heap)
  refine hb.mono fun e w' he => ?_
  cases e with
  | returned x =>
    obtain ⟨E', hC, hg, hs⟩ := he
    have := slot_toVal (hC.slot 0 _ x rfl rfl) (y := .bool true) rfl
    exact ⟨by rw [this], still_of hg hs⟩
  | _ => exact he.elim
open Go.WideShapes Go.ChangeShapes in
theorem post_still {H : Type} {enc : TypeId × Value → H} {P : Program} {f : Func} {s : ChangeSpec} {apart fresh handsOn again : Bool} {W W' : World} {args : Array Value} {v : Value} {ds gs : List (DataW H)} {before pa pv : List MemPlace}
    (hW : DataW.Whole enc P f.params.toList s.vars apart W args.toList ds gs before)
    (hres : ∀ (b : Nat) (sp : Nat → Bool) (hd : Bool), DataW.TrodAll enc P W' b sp hd f.resultTypes.toList (v.resultList f.resultTypes.size) (s.fn H (ds ++ gs)).results [])
    (hargs : ∀ sp : Nat → Bool, (∀ p ∈ before, sp p.block = true) → DataW.TrodAll enc P W' 0 sp true f.params.toList args.toList (s.fn H (ds ++ gs)).args pa)
    (hvars : ∀ sp : Nat → Bool, (∀ p ∈ before, sp p.block = true) → DataW.TrodVars enc P W' sp s.vars (s.fn H (ds ++ gs)).vars pv)
    (hps : before = pa ++ pv) (hS : Still W W')
    (hok : ∀ (j : Nat) (t : TypeId) (r : Value), f.resultTypes[j]? = some t → (v.resultList f.resultTypes.size)[j]? = some r → Value.okWide P W' .any 0 t r) :
    s.post enc P f apart fresh handsOn again W args v W' := by
  have hlt := hW.lt
  obtain ⟨_, _, _, _, _, hz, hn⟩ := id hW
  refine ⟨ds, gs, before, [], pa, pv, hW, hres _ _ _, hargs _ fun p hp => ?_, hvars _ fun p hp => ?_, World.keptBut_mono (fun p hp => hp.elim) hS.kept, fun _ => ⟨hok, _, _, ([] ++ pa) ++ pv, ⟨[] ++ pa, pv, trodAll_append (hargs _ fun _ _ => rfl) (hres _ _ _), hvars _ fun _ _ => rfl, rfl, fun b off hp => ?_, fun ha => ?_⟩, fun p hp _ => ?_⟩⟩
  · simpa using hlt p hp
  · simpa using hlt p hp
  · have hp' : MemPlace.cell b off ∈ before := by rw [hps]; simpa using hp
    have := hlt _ hp'
    rw [hS.froz ⟨b, off, none⟩ this]
    exact hz b off hp'
  · have := hn ha
    rw [hps] at this
    simpa using this
  · rw [hps]
    simpa using hp
def isTrue : Option (V × List Obj) → Bool
  | some (.bool true, []) => true
  | _ => false
theorem of_isTrue {x : Option (V × List Obj)} (h : isTrue x = true) : x = some (.bool true, []) := by
  unfold isTrue at h
  split at h
  · rfl
  · cases h
end Go.Vq
namespace Go.Vq
section
variable {cal : Callee} {base : Nat} {σ σ1 σ2 : St} {its : FuncId → Iter} {again : Nat → VCode → St → Option (Out × St)} {r : Option (Out × St)}
theorem runOps_cons {o : VOper} {os : List VOper} {r : Option St} (h : (o.prog cal base).run σ = some σ1) (h2 : runOps cal base os σ1 = r) : runOps cal base (o :: os) σ = r := by
  simp only [runOps, h]; exact h2
theorem runDraw_cons {o : VOper} {os : List VOper} {done : List (List Loc × List Loc)} {f : List Loc × List Loc} {r : Option St} (hf : (o.prog cal base).foot σ = f) (hc : clashes o.before f 0 done = false)
    (h : (o.prog cal base).run σ = some σ1) (h2 : runDraw cal base os (done ++ [f]) σ1 = r) : runDraw cal base (o :: os) done σ = r := by
  simp only [runDraw, hf, hc, h, Bool.false_eq_true, if_false]; exact h2
theorem step_region {ops : List VOper} (h : runOps cal base ops σ = some σ1) : step cal its again base (.region ops false) σ = some (.normal, σ1) := by simp [step, h]
theorem step_draw {ops : List VOper} (h : runDraw cal base ops [] σ = some σ1) : step cal its again base (.region ops true) σ = some (.normal, σ1) := by simp [step, h]
theorem step_seq {a b : VCode} (h : step cal its again base a σ = some (.normal, σ1)) (h2 : step cal its again base b σ1 = r) : step cal its again base (.seq a b) σ = r := by simp only [step, h]; exact h2
theorem step_seq_out {a b : VCode} {o : Out} (h : step cal its again base a σ = some (o, σ1)) (ho : o ≠ .normal) : step cal its again base (.seq a b) σ = some (o, σ1) := by
  simp only [step, h]
  cases o with
  | normal => exact absurd rfl ho
  | _ => rfl
theorem step_true {c : Opd} {a b : VCode} (hc : condV c σ = some true) (h : step cal its again base a σ = r) : step cal its again base (.cond c a b) σ = r := by simp only [step, hc]; exact h
theorem step_false {c : Opd} {a b : VCode} (hc : condV c σ = some false) (h : step cal its again base b σ = r) : step cal its again base (.cond c a b) σ = r := by simp only [step, hc]; exact h
theorem step_block {id : Nat} {keep : Option (List Nat)} {a : VCode} (h : step cal its again base a σ = some (.normal, σ1)) (hk : rebase? keep base σ1 = σ2) : step cal its again base (.block id keep a) σ = some (.normal, σ2) := by simp only [step, h, hk]
theorem step_block_exit {id : Nat} {keep : Option (List Nat)} {a : VCode} (h : step cal its again base a σ = some (.exit id, σ1)) (hk : rebase? keep base σ1 = σ2) : step cal its again base (.block id keep a) σ = some (.normal, σ2) := by simp [step, h, hk]
theorem step_block_out {id id' : Nat} {keep : Option (List Nat)} {a : VCode} (h : step cal its again base a σ = some (.exit id', σ1)) (hne : id' ≠ id) : step cal its again base (.block id keep a) σ = some (.exit id', σ1) := by simp [step, h, hne]
theorem step_block_ret {id : Nat} {keep : Option (List Nat)} {a : VCode} (h : step cal its again base a σ = some (.ret, σ1)) : step cal its again base (.block id keep a) σ = some (.ret, σ1) := by simp only [step, h]
theorem step_loop {keep : Option (List Nat)} {a : VCode} (hk : rebase? keep base σ = σ1) (h : step cal its again base a σ1 = some (.normal, σ2)) (h2 : again base (.loop keep a) σ2 = r) : step cal its again base (.loop keep a) σ = r := by
  simp only [step, hk, h]; exact h2
theorem step_loop_out {keep : Option (List Nat)} {a : VCode} {o : Out} (hk : rebase? keep base σ = σ1) (h : step cal its again base a σ1 = some (o, σ2)) (ho : o ≠ .normal) : step cal its again base (.loop keep a) σ = some (o, σ2) := by
  simp only [step, hk, h]
  cases o with
  | normal => exact absurd rfl ho
  | _ => rfl
theorem call_code {G : VProg} {n : Nat} {f : FuncId} {fn : VFunc} {args : List V} {objs : List Obj} {o : Out} {res : Option (V × List Obj)} (hf : G f = some (.code fn)) (hl : args.length = fn.nparams ∧ fn.nparams ≤ fn.ntmps)
    (h : exec G n objs.length fn.body (start fn args objs) = some (o, σ)) (ho : o = .normal ∨ o = .ret) (hr : finish fn objs.length σ = res) : call G n f args objs = res := by
  unfold call callWith
  rw [hf]
  simp only [if_pos hl, h]
  rcases ho with rfl | rfl <;> exact hr
theorem call_prim {G : VProg} {n : Nat} {f : FuncId} {run : List V → List Obj → Option (V × List Obj)} {args : List V} {objs : List Obj} (hf : G f = some (.prim run)) : call G n f args objs = run args objs := by
  unfold call callWith
  rw [hf]
end
end Go.Vq
namespace Go.Vq
open Go.RowKit
def fixE (agg : Bool) (e : V) : V := if agg then .agg e.cells else e.cells.headD .nil
def idxV (l : List V) : List (List V) := l.zipIdx.map fun p => [.int .i64 p.2, p.1]
def backwardI (agg : Bool) (sz : Nat) : Iter
  | [[.isl _ sz' es]] => if sz' = sz ∧ es.length ≤ 140737488355328 then some (2, (idxV (es.map (fixE agg))).reverse) else none
  | _ => none
section
variable {P : Program} {r : Option Nat} {n : Nat}
theorem wpOpsIn_cons {ops : Array Oper} {Q : Exit → Act → World → Prop} {i : Nat} {rest : List Nat} {a : Act} {w w' : World} {o : Oper} {v : Value} (ho : ops[i]? = some o) (hg : o.guard = none) (hd : ∀ c, o.op ≠ .defer c) (hr : (execOp a.eval o).run P w = .ok (.value v) w')
    (hn : wpOpsIn (Fw r) n P ops Q rest (a.put o.dst v) w') : wpOpsIn (Fw r) n P ops Q (i :: rest) a w := by
  simp only [wpOpsIn, ho]
  rw [if_pos (by simp [Region.wanted, hg])]
  refine ⟨fun _ _ => trivial, ?_⟩
  rw [Oper.semAt_eq _ _ _ hd, hr]
  exact hn
theorem wpOpsIn_round {ops : Array Oper} {Q : Exit → Act → World → Prop} {i : Nat} {rest : List Nat} {a : Act} {w w' : World} {o : Oper} {l : Nat} {f : FuncId} {tmps : Array Value} {asg body : Code} (ho : ops[i]? = some o) (hg : o.guard = none) (hd : ∀ c, o.op ≠ .defer c)
    (hr : (execOp a.eval o).run P w = .ok (.round l f tmps asg body) w') (hn : RoundIn (Fw r) (n - 1) P l f tmps asg body w' fun
      | .returned v, w'' => wpOpsIn (Fw r) n P ops Q rest (a.put o.dst v) w''
      | .panicked chain, w'' => Q (.panic chain) a w''
      | .outgrown, _ => LetsOut Q) : wpOpsIn (Fw r) n P ops Q (i :: rest) a w := by
  simp only [wpOpsIn, ho]
  rw [if_pos (by simp [Region.wanted, hg])]
  refine ⟨fun _ _ => trivial, ?_⟩
  rw [Oper.semAt_eq _ _ _ hd, hr]
  exact ⟨fun h => (by cases h), hn⟩
theorem wpIn_region_at {id : Nat} {ops : Array Oper} {Q : Exit → Act → World → Prop} {a : Act} {w : World} (m : Nat) (L : List Nat) (hm : ops.size = m) (hL : List.range m = L) (h : wpOpsIn (Fw r) n P ops Q L a w) : (Code.region id ops false).wpIn (Fw r) n P Q a w :=
  wpIn_region (by rw [hm, hL]; exact h)
theorem load1_run {t : TypeId} {ad : Addr} {v : Value} {w : World} (ha : aggOf P t = some false) (hs : szOf P t = some 1) (hsp : ad.spot = none) (hc : cellAt w.heap ad.block ad.off = some v) : (loadVar t ad).run P w = .ok v w := by
  have := loadVar_run (w := w) ha hs hsp (fun j hj => ⟨v, by obtain rfl : j = 0 := by omega
                                                             exact hc⟩) (fun _ => rfl)
  rw [this]
  simp only [Bool.false_eq_true, if_false, cellsAt, List.range_one, List.map_cons, List.map_nil, List.headD_cons, Nat.add_zero, hc, Option.getD_some]
def valAt (H : Array Go.Obj) (agg : Bool) (ad : Addr) (sz i : Nat) : Value := if agg then .agg (cellsAt H (ad.add (i * sz)) sz).toArray else (cellsAt H (ad.add (i * sz)) sz).headD undef
theorem elem_at {E : Env} {w : World} {g sz : Nat} {es : List V} {a : Option Addr} {l c : Nat} {e : TypeId} {agg : Bool} (hI : RelI E.imm w.heap (.isl g sz es) (.slice a l c)) (ha : aggOf P e = some agg) (hs : szOf P e = some sz) (hag : agg = false → sz = 1) {i : Nat} {u : V} (hi : es[i]? = some u) :
    l = es.length ∧ ∃ ad, a = some ad ∧ ad.spot = none ∧ RelE E w.heap (fixE agg u) (valAt w.heap agg ad sz i) ∧
      ∀ w' : World, (∀ b i, E.imm b i → cellAt w'.heap b i = cellAt w.heap b i) → (loadVar e (ad.add (i * sz))).run P w' = .ok (valAt w.heap agg ad sz i) w' := by
  obtain ⟨a', cap, hw, him⟩ := View.of_isl hI
  have he := hw.eq
  cases he
  have hlt := lt_of_getElem? hi
  have hle := hw.le
  cases a with
  | none => have := hw.nil rfl; omega
  | some ad =>
    have hsp := hw.spot ad rfl (by omega)
    obtain ⟨hlen, hlf⟩ := hw.elems.1 u (List.mem_of_getElem? hi)
    have hcell : ∀ j, j < sz → ∃ v y, u.cells[j]? = some v ∧ v.leaf = true ∧ E.imm (ad.add (i * sz)).block ((ad.add (i * sz)).off + j) ∧ cellAt w.heap (ad.add (i * sz)).block ((ad.add (i * sz)).off + j) = some y ∧ RelI E.imm w.heap v y := by
      intro j hj
      obtain ⟨v, hv⟩ := exists_getElem? (l := u.cells) (i := j) (by omega)
      obtain ⟨ad', y, e1, e2, e3⟩ := hw.elems.2 i u j v hi hv
      cases e1
      have h4 := him ad i u j rfl hi (by omega)
      refine ⟨v, y, hv, hlf v (List.mem_of_getElem? hv), ?_, ?_, e3⟩
      · rw [add_spot hsp]; simpa [Nat.add_assoc] using h4
      · rw [add_spot hsp]; simpa [Nat.add_assoc] using e2
    have hget : ∀ j, j < sz → ∃ v y, u.cells[j]? = some v ∧ v.leaf = true ∧ (cellsAt w.heap (ad.add (i * sz)) sz)[j]? = some y ∧ RelI E.imm w.heap v y := by
      intro j hj
      obtain ⟨v, y, h1, h2, _, h3, h4⟩ := hcell j hj
      exact ⟨v, y, h1, h2, cellsAt_get hj h3, h4⟩
    refine ⟨rfl, ad, rfl, hsp, ?_, fun w' hw' => ?_⟩
    · cases agg with
      | true =>
        refine ⟨⟨_, rfl, by simp [cellsAt_len, hlen]⟩, fun j v z hv hz => ?_⟩
        have hv : u.cells[j]? = some v := hv
        have hj : j < sz := by rw [← hlen]; exact lt_of_getElem? hv
        obtain ⟨v', y, h1, h2, h3, h4⟩ := hget j hj
        rw [hv] at h1; cases h1
        have hz' : (cellsAt w.heap (ad.add (i * sz)) sz)[j]? = some z := by simpa [vcells, valAt, Value.cells] using hz
        rw [h3] at hz'; cases hz'
        exact ⟨h2, h4⟩
      | false =>
        have h1 := hag rfl
        subst h1
        obtain ⟨v, y, h1, h2, h3, h4⟩ := hget 0 (by omega)
        have hc1 : u.cells = [v] := by
          match hu : u.cells, hlen with
          | [x], _ => rw [hu] at h1; simp at h1; rw [h1]
        have hv : fixE false u = v := by simp [fixE, hc1]
        have hy : valAt w.heap false ad 1 i = y := by
          simp only [valAt, Bool.false_eq_true, if_false]
          match hcs : cellsAt w.heap (ad.add (i * 1)) 1 with
          | [] => rw [hcs] at h3; simp at h3
          | z :: zs => rw [hcs] at h3; simp at h3; simp [h3]
        rw [hv, hy]
        have hx := relI_leafX h4 h2
        have hag : aggX y = false := by cases y <;> first | rfl | simp [leafX] at hx
        refine ⟨(shape1_leaf h2).2 hag, fun j v' z hv' hz => ?_⟩
        rw [cells_leaf h2] at hv'; rw [vcells_leaf hag] at hz
        cases j with
        | zero => simp at hv' hz; subst hv' hz; exact ⟨h2, h4⟩
        | succ j => simp at hv'
    · have hsame : cellsAt w'.heap (ad.add (i * sz)) sz = cellsAt w.heap (ad.add (i * sz)) sz := by
        unfold cellsAt
        refine List.map_congr_left fun j hj => ?_
        obtain ⟨v, y, _, _, h3, _, _⟩ := hcell j (List.mem_range.1 hj)
        rw [hw' _ _ h3]
      have := loadVar_run (w := w') (ad := ad.add (i * sz)) ha hs (by rw [add_spot hsp]) (fun j hj => by
        obtain ⟨v, y, _, _, h3, h4, _⟩ := hcell j hj
        exact ⟨y, by rw [hw' _ _ h3]; exact h4⟩) hag
      rw [this, hsame]
      rfl
def backBody (S e Y I B : TypeId) : Code :=
  ((Code.region 0
            #[{ dst := some 4, op := Op.load S (Operand.tmp 1), type := S, pos := "iter.go:28", after := #[],
                guard := none },
              { dst := some 5,
                op :=
                  Op.call
                    { callee := Callee.builtin Builtin.len, args := #[Operand.tmp 4], argTypes := #[S] },
                type := I, pos := "iter.go:28", after := #[{ on := 0, ground := Ground.data }], guard := none },
              { dst := some 6,
                op :=
                  Op.binOp BinOp.sub I (Operand.tmp 5) (Operand.const (Value.int IntKind.i64 1)) I,
                type := I, pos := "iter.go:28", after := #[{ on := 1, ground := Ground.data }], guard := none },
              { dst := some 3, op := Op.assign (Operand.tmp 6), type := I, pos := "iter.go:28",
                after :=
                  #[{ on := 2, ground := Ground.data }, { on := 0, ground := Ground.phase },
                    { on := 1, ground := Ground.phase }, { on := 2, ground := Ground.phase }],
                guard := none }]
            false).seq
        (Code.block 0
          (((Code.region 1
                      #[{ dst := some 7, op := Op.move (Operand.tmp 3), type := I, pos := "iter.go:28",
                          after := #[], guard := none },
                        { dst := some 8,
                          op :=
                            Op.binOp BinOp.geq I (Operand.tmp 7)
                              (Operand.const (Value.int IntKind.i64 0)) I,
                          type := B, pos := "iter.go:28", after := #[{ on := 0, ground := Ground.data }],
                          guard := none }]
                      false).seq
                  (Code.cond (Operand.tmp 8) Code.skip (Code.exit 0))).seq
              ((Code.block 1
                    ((Code.region 3
                          #[{ dst := some 11, op := Op.move (Operand.tmp 0), type := Y, pos := "iter.go:29",
                              after := #[], guard := none },
                            { dst := some 12, op := Op.move (Operand.tmp 3), type := I, pos := "iter.go:29",
                              after := #[], guard := none },
                            { dst := some 13, op := Op.load S (Operand.tmp 1), type := S, pos := "iter.go:29",
                              after := #[], guard := none },
                            { dst := some 14, op := Op.move (Operand.tmp 3), type := I, pos := "iter.go:29",
                              after := #[], guard := none },
                            { dst := some 15, op := Op.indexAddr S (Operand.tmp 13) (Operand.tmp 14),
                              type := 0, pos := "iter.go:29",
                              after := #[{ on := 2, ground := Ground.data }, { on := 3, ground := Ground.data }],
                              guard := none },
                            { dst := some 16, op := Op.load e (Operand.tmp 15), type := e, pos := "iter.go:29",
                              after := #[{ on := 4, ground := Ground.data }], guard := none },
                            { dst := some 17,
                              op :=
                                Op.call
                                  { callee := Callee.value (Operand.tmp 11),
                                    args := #[Operand.tmp 12, Operand.tmp 16], argTypes := #[I, e] },
                              type := B, pos := "iter.go:29",
                              after :=
                                #[{ on := 0, ground := Ground.data }, { on := 1, ground := Ground.data },
                                  { on := 5, ground := Ground.data }],
                              guard := none },
                            { dst := some 18, op := Op.unOp UnOp.not B (Operand.tmp 17), type := B,
                              pos := "iter.go:29", after := #[{ on := 6, ground := Ground.data }], guard := none }]
                          false).seq
                      (Code.cond (Operand.tmp 18) Code.ret Code.skip))).seq
                (Code.region 2
                  #[{ dst := some 9, op := Op.move (Operand.tmp 3), type := I, pos := "iter.go:28", after := #[],
                      guard := none },
                    { dst := some 10,
                      op :=
                        Op.binOp BinOp.sub I (Operand.tmp 9) (Operand.const (Value.int IntKind.i64 1))
                          I,
                      type := I, pos := "iter.go:28", after := #[{ on := 0, ground := Ground.data }],
                      guard := none },
                    { dst := some 3, op := Op.assign (Operand.tmp 10), type := I, pos := "iter.go:28",
                      after :=
                        #[{ on := 1, ground := Ground.data }, { on := 0, ground := Ground.phase },
                          { on := 1, ground := Ground.phase }],
                      guard := none }]
                  false))).loop))
abbrev act19 (a b c d e f g h i j k l m n o p q r s : Value) : Act := ⟨#[a, b, c, d, e, f, g, h, i, j, k, l, m, n, o, p, q, r, s], []⟩
set_option maxHeartbeats 400000 in
theorem backward_ok {g : FuncId} {fn : Func} {S e Y I B : TypeId} {agg : Bool} {sz : Nat} (h1 : P.funcs[g]? = some fn) (h2 : fn.body = some (backBody S e Y I B)) (h3 : fn.ntmps = 19) (h4 : fn.results = #[]) (h5 : (fn.name == "runtime.NumGoroutine") = false)
    (hS : under P S = some (.slice e)) (hSs : szOf P S = some 1) (hSa : aggOf P S = some false) (ha : aggOf P e = some agg) (hs : szOf P e = some sz) (hag : agg = false → sz = 1) : IterOk P g (backwardI agg sz) := by
  refine ⟨⟨fn, h1, by rw [h2]; rfl, h5⟩, fun bs xs ar hrun E lb w hlb hbx => ?_⟩
  unfold backwardI at hrun
  split at hrun
  case h_2 => cases hrun
  rename_i g0 sz' es
  split at hrun
  case isFalse => cases hrun
  rename_i hc
  obtain ⟨hsz, hbig⟩ := hc
  replace hsz := hsz.symm
  subst hsz
  cases hrun
  obtain ⟨bx, hbx0, hbs, hbc⟩ := hbx 0 _ rfl
  obtain ⟨sv, him, hcv, hI⟩ := hbc 0 _ rfl
  rw [Nat.add_zero] at him hcv
  obtain ⟨a, cap, hw, _⟩ := View.of_isl hI
  have hsv := hw.eq
  subst hsv
  have hlb' : lb = #[.pointer (some bx)] := by
    apply Array.ext'
    match hl : lb.toList, (by simpa using hlb.symm : lb.toList.length = 1) with
    | [x], _ =>
      have : lb.toList[0]? = some (.pointer (some bx)) := by simpa using hbx0
      rw [hl] at this; simp at this; rw [this]
  subst hlb'
  have hxk : ∀ (k : Nat) (x : List V), ((idxV (es.map (fixE agg))).reverse)[k]? = some x → ∃ u, k < es.length ∧ es[es.length - 1 - k]? = some u ∧ x = [.int .i64 ((es.length - 1 - k : Nat) : Int), fixE agg u] := by
    intro k x hx
    have hk : k < es.length := by have := lt_of_getElem? hx; simpa [idxV] using this
    rw [List.getElem?_reverse (by simpa [idxV] using hk)] at hx
    simp only [idxV, List.length_map, List.length_zipIdx, List.getElem?_map, List.getElem?_zipIdx] at hx
    obtain ⟨u, hu⟩ := exists_getElem? (l := es) (i := es.length - 1 - k) (by omega)
    rw [hu] at hx
    simp at hx
    exact ⟨u, hk, hu, hx.symm⟩
  have hadr : ∀ i, i < es.length → ∃ ad, a = some ad ∧ ad.spot = none ∧ ∃ u, es[i]? = some u ∧ RelE E w.heap (fixE agg u) (valAt w.heap agg (a.getD default) sz i) ∧
      ∀ w' : World, (∀ b i, E.imm b i → cellAt w'.heap b i = cellAt w.heap b i) → (loadVar e (ad.add (i * sz))).run P w' = .ok (valAt w.heap agg (a.getD default) sz i) w' := by
    intro i hi
    obtain ⟨u, hu⟩ := exists_getElem? hi
    obtain ⟨_, ad, e1, e2, e3, e4⟩ := elem_at (w := w) hI ha hs hag hu
    subst e1
    exact ⟨ad, rfl, e2, u, hu, e3, e4⟩
  have hlen : (idxV (es.map (fixE agg))).reverse.length = es.length := by simp [idxV]
  refine ⟨fun k => #[.int .i64 ((es.length - 1 - k : Nat) : Int), valAt w.heap agg (a.getD default) sz (es.length - 1 - k)], fun k x hx => ?_, fun Kp hKt hKp _ l J Jx W hW _ hY h0 => ?_⟩
  · obtain ⟨u, hk, hu, rfl⟩ := hxk k x hx
    refine ⟨rfl, rfl, fun j v y hv hy => ?_⟩
    match j with
    | 0 =>
      simp at hv hy; subst hv hy
      exact ⟨rfl, fun j u z hu hz => by
        cases j with
        | zero => simp [V.cells, vcells, Value.cells] at hu hz; subst hu hz; exact ⟨rfl, .int _ _⟩
        | succ j => simp [V.cells] at hu⟩
    | 1 =>
      simp at hv hy; subst hv hy
      obtain ⟨_, _, _, u', hu', h, _⟩ := hadr _ (lt_of_getElem? hu)
      rw [hu] at hu'; cases hu'
      exact h
    | j + 2 => simp at hv
  · rw [hlen] at hY ⊢
    refine callsIn_of_wp h1 h2 trivial ?_
    rw [h3]
    have hsame : ∀ {W' : World}, Kp w W' → ∀ b i, E.imm b i → cellAt W'.heap b i = cellAt w.heap b i := fun h => hKp _ _ h
    have hbox : ∀ {W' : World}, (∀ b i, E.imm b i → cellAt W'.heap b i = cellAt w.heap b i) → (loadVar S bx).run P W' = .ok (.slice a es.length cap) W' := fun h => load1_run hSa hSs hbs ((h _ _ him).trans hcv)
    obtain ⟨yl, hyl⟩ : ∃ yl, yl = Value.func (.yield l) #[] #[] := ⟨_, rfl⟩
    simp only [List.size_toArray, List.length_cons, List.length_nil, Nat.reduceAdd, Nat.reduceSub, Array.replicate_succ, Array.replicate_zero, List.push_toArray, List.append_toArray, List.nil_append, List.cons_append]
    rw [← hyl]
    unfold backBody
    have hbin : ∀ (op : BinOp) (u v r : V) (xu xv yr : Value) (W' : World), u.toVal = some xu → v.toVal = some xv → binV op u v = some r → r.toVal = some yr → (Go.binOp op I xu xv).run P W' = .ok yr W' := by
      intro op u v r xu xv yr W' e1 e2 e3 e4
      obtain ⟨yr', e5, e6⟩ := binV_run (P := P) (w := W') (t := I) e1 e2 e3
      rw [e4] at e5; cases e5; exact e6
    have hload : ∀ {W' : World} {o : Oper} {a1 : Act}, o.op = .load S (.tmp 1) → a1.eval (.tmp 1) = .pointer (some bx) → (∀ b i, E.imm b i → cellAt W'.heap b i = cellAt w.heap b i) → (execOp a1.eval o).run P W' = .ok (.value (.slice a es.length cap)) W' := by
      intro W' o a1 ho ha1 h
      simp [execOp, ho, ha1, Instr.loadAt, Instr.sureAddr, hbox h]
    refine wpIn_seq (wpIn_region_at 4 [0, 1, 2, 3] rfl rfl ?_)
    have hwrap : ∀ z : Int, -140737488355328 ≤ z → z ≤ 140737488355328 → IntKind.i64.wrap z = z := by
      intro z h1 h2
      simp only [IntKind.wrap, IntKind.bits, IntKind.signed]
      simp
      omega
    have hsub : ∀ (z : Int) (W' : World), -140737488355327 ≤ z → z ≤ 140737488355328 → (Go.binOp .sub I (.int .i64 z) (.int .i64 1)).run P W' = .ok (.int .i64 (z - 1)) W' := fun z W' h1 h2 =>
      hbin .sub (.int .i64 z) (.int .i64 1) (.int .i64 (z - 1)) _ _ _ W' rfl rfl (by simp only [binV, if_true]; rw [hwrap _ (by omega) (by omega)]) rfl
    have hgeq : ∀ (z : Int) (W' : World), (Go.binOp .geq I (.int .i64 z) (.int .i64 0)).run P W' = .ok (.bool (decide (z ≥ 0))) W' := fun z W' =>
      hbin .geq (.int .i64 z) (.int .i64 0) (.bool (decide (z ≥ 0))) _ _ _ W' rfl rfl (by simp only [binV, if_true]) rfl
    have hne : BinOp.sub ≠ .eql ∧ BinOp.sub ≠ .neq := by decide
    have hne2 : BinOp.geq ≠ .eql ∧ BinOp.geq ≠ .neq := by decide
    refine wpOpsIn_cons (v := .slice a es.length cap) (w' := W) rfl rfl (by simp) (hload rfl rfl (hsame hW)) ?_
    simp only [List.getElem_toArray, List.getElem_cons_succ, List.getElem_cons_zero, Act.put, List.setIfInBounds_toArray, List.set_cons_succ, List.set_cons_zero]
    refine wpOpsIn_cons (v := .int .i64 es.length) (w' := W) rfl rfl (by simp) ?_ ?_
    · rw [builtin_run rfl rfl]
      simp [builtin, Builtin.len_, run_under hS, goInt, Act.eval]
    simp only [List.getElem_toArray, List.getElem_cons_succ, List.getElem_cons_zero, Act.put, List.setIfInBounds_toArray, List.set_cons_succ, List.set_cons_zero]
    refine wpOpsIn_cons (v := .int .i64 ((es.length : Int) - 1)) (w' := W) rfl rfl (by simp) ?_ ?_
    · simp only [execOp]
      simp [eqGuard_skip hne, Act.eval, hsub es.length W (by omega) (by omega)]
    simp only [List.getElem_toArray, List.getElem_cons_succ, List.getElem_cons_zero, Act.put, List.setIfInBounds_toArray, List.set_cons_succ, List.set_cons_zero]
    refine wpOpsIn_cons (v := .int .i64 ((es.length : Int) - 1)) (w' := W) rfl rfl (by simp) ?_ ?_
    · simp [execOp, Act.eval]
    simp only [List.getElem_toArray, List.getElem_cons_succ, List.getElem_cons_zero, Act.put, List.setIfInBounds_toArray, List.set_cons_succ, List.set_cons_zero]
    simp only [wpOpsIn]
    refine wpIn_block (wpIn_loop_fuel (m := es.length) (fun m a' W' => m ≤ es.length ∧ (∃ t2 t4 t5 t6 t7 t8 t9 t10 t11 t12 t13 t14 t15 t16 t17 t18, a' = act19 yl (.pointer (some bx)) t2 (.int .i64 ((m : Int) - 1)) t4 t5 t6 t7 t8 t9 t10 t11 t12 t13 t14 t15 t16 t17 t18) ∧ J (es.length - m) W' ∧ Kp w W' ∨ False)
      (.inl ⟨Nat.le_refl _, ⟨_, _, _, _, _, _, _, _, _, _, _, _, _, _, _, _, rfl⟩, by simpa using h0, hW⟩) ?_)
    rintro m a' W' (⟨hm, ⟨t2, t4, t5, t6, t7, t8, t9, t10, t11, t12, t13, t14, t15, t16, t17, t18, rfl⟩, hJ, hKW⟩ | h)
    case inr => exact h.elim
    have hsm := hsame hKW
    refine wpIn_seq (wpIn_seq (wpIn_region_at 2 [0, 1] rfl rfl ?_))
    refine wpOpsIn_cons (v := .int .i64 ((m : Int) - 1)) (w' := W') rfl rfl (by simp) (by simp [execOp, Act.eval]) ?_
    simp only [List.getElem_toArray, List.getElem_cons_succ, List.getElem_cons_zero, Act.put, List.setIfInBounds_toArray, List.set_cons_succ, List.set_cons_zero]
    refine wpOpsIn_cons (v := .bool (decide ((m : Int) - 1 ≥ 0))) (w' := W') rfl rfl (by simp) ?_ ?_
    · simp only [execOp]
      simp [eqGuard_skip hne2, Act.eval, hgeq _ W']
    simp only [List.getElem_toArray, List.getElem_cons_succ, List.getElem_cons_zero, Act.put, List.setIfInBounds_toArray, List.set_cons_succ, List.set_cons_zero]
    simp only [wpOpsIn]
    cases m with
    | zero =>
      refine wpIn_cond_false rfl (wpIn_exit ?_)
      refine ⟨rfl, _, results_none h4 _ _ _, ⟨_, rfl⟩, .inl (by simpa using hJ)⟩
    | succ m =>
      have hm1 : ((m + 1 : Nat) : Int) - 1 = (m : Int) := by omega
      have hk : es.length - 1 - (es.length - (m + 1)) = m := by omega
      obtain ⟨ad, rfl, hsp, u, hu, _, hval⟩ := hadr m (by omega)
      simp only [hm1]
      refine wpIn_cond_true (by simp [Act.eval]) (wpIn_skip ?_)
      refine wpIn_seq (wpIn_block (wpIn_seq (wpIn_region_at 8 [0, 1, 2, 3, 4, 5, 6, 7] rfl rfl ?_)))
      refine wpOpsIn_cons (v := yl) (w' := W') rfl rfl (by simp) (by simp [execOp, Act.eval]) ?_
      simp only [List.getElem_toArray, List.getElem_cons_succ, List.getElem_cons_zero, Act.put, List.setIfInBounds_toArray, List.set_cons_succ, List.set_cons_zero]
      refine wpOpsIn_cons (v := .int .i64 m) (w' := W') rfl rfl (by simp) (by simp [execOp, Act.eval]) ?_
      simp only [List.getElem_toArray, List.getElem_cons_succ, List.getElem_cons_zero, Act.put, List.setIfInBounds_toArray, List.set_cons_succ, List.set_cons_zero]
      refine wpOpsIn_cons (v := .slice (some ad) es.length cap) (w' := W') rfl rfl (by simp) (hload rfl rfl hsm) ?_
      simp only [List.getElem_toArray, List.getElem_cons_succ, List.getElem_cons_zero, Act.put, List.setIfInBounds_toArray, List.set_cons_succ, List.set_cons_zero]
      refine wpOpsIn_cons (v := .int .i64 m) (w' := W') rfl rfl (by simp) (by simp [execOp, Act.eval]) ?_
      simp only [List.getElem_toArray, List.getElem_cons_succ, List.getElem_cons_zero, Act.put, List.setIfInBounds_toArray, List.set_cons_succ, List.set_cons_zero]
      refine wpOpsIn_cons (v := .pointer (some (ad.add (m * sz)))) (w' := W') rfl rfl (by simp) ?_ ?_
      · have := indexAt_run (P := P) (w := W') (ad := ad) (len := es.length) (cap := cap) (kk := .i64) (m := (m : Int)) hS hs (by omega) (by omega)
        simp [execOp, Act.eval, this]
      simp only [List.getElem_toArray, List.getElem_cons_succ, List.getElem_cons_zero, Act.put, List.setIfInBounds_toArray, List.set_cons_succ, List.set_cons_zero]
      refine wpOpsIn_cons (v := valAt w.heap agg ad sz m) (w' := W') rfl rfl (by simp) ?_ ?_
      · have := hval W' hsm
        simp [execOp, Act.eval, Instr.loadAt, Instr.sureAddr, this]
      simp only [List.getElem_toArray, List.getElem_cons_succ, List.getElem_cons_zero, Act.put, List.setIfInBounds_toArray, List.set_cons_succ, List.set_cons_zero]
      obtain ⟨fn', tmps', asg, bod, hy, hR⟩ := hY (es.length - (m + 1)) W' hJ (by omega)
      simp only [hk, Option.getD_some] at hy
      refine wpOpsIn_round (l := l) (f := fn') (tmps := tmps') (asg := asg) (body := bod) (w' := W') rfl rfl (by simp) ?_ ?_
      · simp [execOp, Act.eval, resolve, Deferred.ofValue, invoke, hyl, hy]
      refine hR.mono ?_
      rintro e' W3 (⟨rfl, hJ3, hK3⟩ | ⟨rfl, hJx⟩)
      · dsimp only
        simp only [List.getElem_toArray, List.getElem_cons_succ, List.getElem_cons_zero, Act.put, List.setIfInBounds_toArray, List.set_cons_succ, List.set_cons_zero]
        refine wpOpsIn_cons (v := .bool false) (w' := W3) rfl rfl (by simp) (by simp [execOp, Act.eval, Op.unary]) ?_
        simp only [List.getElem_toArray, List.getElem_cons_succ, List.getElem_cons_zero, Act.put, List.setIfInBounds_toArray, List.set_cons_succ, List.set_cons_zero]
        simp only [wpOpsIn]
        refine wpIn_cond_false (by simp [Act.eval]) (wpIn_skip ?_)
        refine wpIn_region_at 3 [0, 1, 2] rfl rfl ?_
        refine wpOpsIn_cons (v := .int .i64 m) (w' := W3) rfl rfl (by simp) (by simp [execOp, Act.eval]) ?_
        simp only [List.getElem_toArray, List.getElem_cons_succ, List.getElem_cons_zero, Act.put, List.setIfInBounds_toArray, List.set_cons_succ, List.set_cons_zero]
        refine wpOpsIn_cons (v := .int .i64 ((m : Int) - 1)) (w' := W3) rfl rfl (by simp) ?_ ?_
        · simp only [execOp]
          simp [eqGuard_skip hne, Act.eval, hsub m W3 (by omega) (by omega)]
        simp only [List.getElem_toArray, List.getElem_cons_succ, List.getElem_cons_zero, Act.put, List.setIfInBounds_toArray, List.set_cons_succ, List.set_cons_zero]
        refine wpOpsIn_cons (v := .int .i64 ((m : Int) - 1)) (w' := W3) rfl rfl (by simp) (by simp [execOp, Act.eval]) ?_
        simp only [List.getElem_toArray, List.getElem_cons_succ, List.getElem_cons_zero, Act.put, List.setIfInBounds_toArray, List.set_cons_succ, List.set_cons_zero]
        simp only [wpOpsIn]
        have hJ4 : J (es.length - m) W3 := by rw [show es.length - m = es.length - (m + 1) + 1 by omega]; exact hJ3
        refine ⟨m, Nat.lt_succ_self m, .inl ⟨by omega, ?_, hJ4, hKt _ _ _ hKW hK3⟩⟩
        exact ⟨_, _, _, _, _, _, _, _, _, _, _, _, _, _, _, _, rfl⟩
      · dsimp only
        simp only [List.getElem_toArray, List.getElem_cons_succ, List.getElem_cons_zero, Act.put, List.setIfInBounds_toArray, List.set_cons_succ, List.set_cons_zero]
        refine wpOpsIn_cons (v := .bool true) (w' := W3) rfl rfl (by simp) (by simp [execOp, Act.eval, Op.unary]) ?_
        simp only [List.getElem_toArray, List.getElem_cons_succ, List.getElem_cons_zero, Act.put, List.setIfInBounds_toArray, List.set_cons_succ, List.set_cons_zero]
        simp only [wpOpsIn]
        refine wpIn_cond_true (by simp [Act.eval]) (wpIn_ret ?_)
        exact ⟨rfl, _, results_none h4 _ _ _, ⟨_, rfl⟩, .inr ⟨_, hJx⟩⟩
end
end Go.Vq
namespace Go.Vq
open Go.RowKit
section
variable {P : Program} {r : Option Nat} {n : Nat}
structure ChAct (a : Act) (yl : Value) (bx bn : Addr) (i : Nat) : Prop where
  sz : a.tmps.size = 31
  e0 : a.eval (.tmp 0) = yl
  e1 : a.eval (.tmp 1) = .pointer (some bx)
  e2 : a.eval (.tmp 2) = .pointer (some bn)
  e4 : a.eval (.tmp 4) = .int .i64 i
  df : a.defers = []
end
end Go.Vq
namespace Go.Vq
end Go.Vq
namespace Go.Vq
end Go.Vq
namespace Go.Vq
end Go.Vq
namespace Go.Vq
end Go.Vq
namespace Go.Vq
end Go.Vq
namespace Go.Vq
end Go.Vq
namespace Go.Vq
end Go.Vq
namespace Go.Vq
end Go.Vq
