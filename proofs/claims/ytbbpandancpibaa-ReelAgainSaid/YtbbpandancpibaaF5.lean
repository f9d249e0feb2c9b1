/- A machine of values and its tie to the model, and runs of it: part 5 of 18 (no law of Go is stated here). -/
import Derived.Test.YtbbpandancpibaaF4
set_option linter.unusedVariables false
set_option linter.unusedSimpArgs false
set_option linter.unusedSectionVars false
namespace Go.Vq
section
variable {P : Program} {n base : Nat} {E E' : Env} {σ σ' : St} {hs : List V} {ts xs : List Value} {H H' : Array Go.Obj}
variable {callee : Callee} {o : Oper} {a : Act} {w : World} {next : Act → World → Prop} {Q : Exit → Act → World → Prop}
theorem op_indexArr {t e : TypeId} {x i : Operand} {x' i' : Opd} {len sz : Nat} {agg : Bool} (ho : o.op = .index t x i) (ht : under P t = some (.array len e)) (hs : szOf P e = some sz) (ha : aggOf P e = some agg) (hx : opd P t x = some x') (hi : opd0 i = some i')
    (hC : CoreS n E σ [] a.tmps.toList [] w.heap) (hr : (opProg callee base o.dst (.indexArr len sz agg x' i')).run σ = some σ') (K : NextOk n base E σ' a w next) : o.upon P a next Q ((execOp a.eval o).run P w) := by
  obtain ⟨kk, m, hm, hr⟩ := gInt_sound hC (opd0_ok a hi) hr
  obtain ⟨u, hr, ⟨s, hS, hs'⟩, hrest⟩ := opd_rel (v := .nil) hC (opd_ok a hx) hr
  clear hrest hs'
  split at hr
  · rename_i cs
    rw [Prog.run_ite] at hr
    split at hr
    · rename_i hc
      obtain ⟨h0, h1, h2, hp⟩ := hc
      obtain ⟨v, hv, hr⟩ := optV_run hr
      obtain ⟨⟨arr, ea, hl⟩, hall⟩ := hS
      obtain ⟨hC2, hm1⟩ := hC.pushCells (ys := (arr.toList.drop (m.toNat * sz)).take sz) (by simp [hl]) (fun j z y hz hy => by
        obtain ⟨hz1, _⟩ := mem_sub hz
        have hy1 : arr[m.toNat * sz + j]? = some y := by
          have hj := lt_of_getElem? hy
          simp only [List.length_take] at hj
          rw [List.getElem?_take_of_lt (by omega), List.getElem?_drop] at hy
          simpa using hy
        have hpl := List.all_eq_true.1 hp z (List.mem_of_getElem? hz1)
        have hR := hall _ z y hz1 (by rw [ea]; simpa [vleaves] using hy1)
        have := plain_leaf hpl
        exact ⟨⟨_, hR⟩, this.2.1, this.1, by rw [this.2.2.1]; intro r hr; cases hr⟩) hv
      refine value_end hC2 (Grow.refl _ _ _) (WSame.refl _) hr K ?_
      have hp := part_eq (P := P) (w := w) (arr := arr) (off := m.toNat * sz) ha hs (by omega) (fun h => by
        have := hm1 h; rw [List.length_take, List.length_drop] at this; omega)
      simp [execOp, ho, hm, ea, Instr.index, asIntOf, run_under ht, h0, h1, run_size hs, hp]
    · cases hr
  · cases hr
theorem op_indexAddrArr {t e : TypeId} {x i : Operand} {x' i' : Opd} {len sz : Nat} (ho : o.op = .indexAddr t x i) (ht : under P t = some (.array len e)) (hs : szOf P e = some sz) (hx : opd0 x = some x') (hi : opd0 i = some i')
    (hC : CoreS n E σ [] a.tmps.toList [] w.heap) (hr : (opProg callee base o.dst (.indexAddr (some len) sz x' i')).run σ = some σ') (K : NextOk n base E σ' a w next) : o.upon P a next Q ((execOp a.eval o).run P w) := by
  obtain ⟨kk, m, hm, hr⟩ := gInt_sound hC (opd0_ok a hi) hr
  obtain ⟨u, hr, ⟨s, hS, hs'⟩, hrf, _⟩ := opd_rel (v := .nil) hC (opd0_ok a hx) hr
  simp only [] at hr
  rw [Prog.run_ite] at hr
  split at hr
  · rename_i hc
    obtain ⟨h0, h1⟩ := hc
    obtain ⟨v, hv, hr⟩ := optV_run hr
    have hl : u.leaf = true ∧ ∀ g, u ≠ .gone g := by cases u <;> first | (simp [ptrOff] at hv; done) | exact ⟨rfl, fun g => by simp⟩
    obtain ⟨_, hR⟩ := rel_leaf hS hl.1 hl.2
    obtain ⟨ad, e, hR2, r1, r2, r3⟩ := ptrOff_rel hR hv
    refine value_end (hC.pushLeaf r2 r3 hR2 ?_) (Grow.refl _ _ _) (WSame.refl _) hr K ?_
    · rw [r1]; intro r hr'
      exact hrf r (by rw [V.refs, leaves_leaf hl.1]; simpa using hr')
    · simp [execOp, ho, hm, e, Instr.indexAt, asIntOf, run_under ht, h0, h1, run_size hs, Instr.sureAddr]
  · cases hr
theorem indexAt_run {t e : TypeId} {ad : Addr} {len cap sz : Nat} {kk : IntKind} {m : Int} (ht : under P t = some (.slice e)) (hs : szOf P e = some sz) (h0 : 0 ≤ m) (h1 : m < len) :
    (Instr.indexAt t (.slice (some ad) len cap) (.int kk m)).run P w = .ok (.pointer (some (ad.add (m.toNat * sz)))) w := by
  simp [Instr.indexAt, asIntOf, run_under ht, h0, h1, run_size hs]
theorem op_indexAddr {t e : TypeId} {x i : Operand} {x' i' : Opd} {sz : Nat} (ho : o.op = .indexAddr t x i) (ht : under P t = some (.slice e)) (hs : szOf P e = some sz) (hx : opd P t x = some x') (hi : opd0 i = some i')
    (hC : CoreS n E σ [] a.tmps.toList [] w.heap) (hr : (opProg callee base o.dst (.indexAddr none sz x' i')).run σ = some σ') (K : NextOk n base E σ' a w next) : o.upon P a next Q ((execOp a.eval o).run P w) := by
  obtain ⟨kk, m, hm, hr1⟩ := gInt_sound hC (opd0_ok a hi) hr
  clear hr
  have hok := opd_ok a hx
  obtain ⟨u, hr, ⟨s, hS, hs'⟩, hrf, h1, h2⟩ := opd_rel (v := .nil) hC hok hr1
  clear hr1
  have hrun : ∀ (ad : Addr) (l c : Nat), a.eval x = .slice (some ad) l c → 0 ≤ m → m < l → (execOp a.eval o).run P w = .ok (.value (.pointer (some (ad.add (m.toNat * sz))))) w := by
    intro ad l c e h0 h1
    simp [execOp, ho, hm, e, indexAt_run ht hs h0 h1]
  have himm : ∀ (g : Nat) (es : List V), RelI E.imm w.heap (.isl g sz es) (a.eval x) → 0 ≤ m → ∀ (e0 : V), es[m.toNat]? = some e0 → (putO o.dst (.iptr e0.cells) .ret).run σ = some σ' → o.upon P a next Q ((execOp a.eval o).run P w) := by
    intro g es hI h0 e0 he hr
    obtain ⟨ad, cap, hw, hii⟩ := View.of_isl hI
    have hlt := lt_of_getElem? he
    have hle := hw.le
    cases ad with
    | none => have := hw.nil rfl; omega
    | some ad =>
      have hsp := hw.spot ad rfl (by omega)
      refine value_end (hC.pushLeaf (h := .slot 0 0) (v := .iptr e0.cells) (x := .pointer (some (ad.add (m.toNat * sz)))) rfl rfl ⟨_, rfl, by rw [add_spot hsp], fun j v hj => ?_⟩ (by intro r hr; cases hr)) (Grow.refl _ _ _) (WSame.refl _) hr K (hrun ad _ _ hw.eq h0 (by omega))
      obtain ⟨ad', y, e1, e2, e3⟩ := hw.elems.2 _ e0 j v he hj
      cases e1
      have h4 := hii ad _ e0 j rfl he (lt_of_getElem? hj)
      rw [add_spot hsp]
      exact ⟨(hw.elems.1 e0 (List.mem_of_getElem? he)).2 v (List.mem_of_getElem? hj), y, by simpa [Nat.add_assoc] using h4, by simpa [Nat.add_assoc] using e2, e3⟩
  cases u
  all_goals (try (cases hr; done))
  case isl g sz' es =>
    replace hr : (if 0 ≤ m ∧ sz' = sz then (match es[m.toNat]? with | some e => putO o.dst (.iptr e.cells) .ret | none => .fail) else .fail).run σ = some σ' := hr
    rw [Prog.run_ite] at hr
    split at hr
    · rename_i hc
      obtain ⟨h0, rfl⟩ := hc
      obtain ⟨_, hR⟩ := rel_leaf hS rfl (fun g => by simp)
      split at hr
      · rename_i e0 he; exact himm g es hR h0 e0 he hr
      · cases hr
    · cases hr
  case csl sz' es =>
    replace hr : (if 0 ≤ m ∧ sz' = sz then (match es[m.toNat]? with | some e => putO o.dst (.iptr e.cells) .ret | none => .fail) else .fail).run σ = some σ' := hr
    rw [Prog.run_ite] at hr
    split at hr
    · rename_i hc
      obtain ⟨h0, rfl⟩ := hc
      obtain ⟨_, hR⟩ := rel_leaf hS rfl (fun g => by simp)
      split at hr
      · rename_i e0 he; exact himm 0 es hR.1 h0 e0 he hr
      · cases hr
    · cases hr
  case fsl g sz' es =>
    replace hr : (if 0 ≤ m ∧ sz' = sz then (match es[m.toNat]? with | some e => putO o.dst (.iptr e.cells) .ret | none => .fail) else .fail).run σ = some σ' := hr
    rw [Prog.run_ite] at hr
    split at hr
    · rename_i hc
      obtain ⟨h0, rfl⟩ := hc
      obtain ⟨_, hR⟩ := rel_leaf hS rfl (fun g => by simp)
      split at hr
      · rename_i e0 he
        refine himm 0 es ?_ h0 e0 he hr
        obtain ⟨ad, cap, e1, e2, e3, e4, e5, e6⟩ := hR
        refine isl_of_view (a := ad) (cap := cap) ⟨e1, e2, e3, e4, e6⟩ fun ad' i e j ha hi hj => ?_
        have hlt := lt_of_getElem? hi
        obtain ⟨ad'', arr, T, f, f1, f2, _⟩ := e5 (by omega)
        rw [ha] at f1; cases f1
        simp only [Env.imm, f2]
        rw [(e6.1 e (List.mem_of_getElem? hi)).1] at hj
        have : (i + 1) * sz' ≤ es.length * sz' := Nat.mul_le_mul_right _ hlt
        rw [Nat.add_mul] at this; omega
      · cases hr
    · cases hr
  case srf h g sz' off len =>
    replace hr : (if 0 ≤ m ∧ m < len ∧ sz' = sz then putO o.dst (.ptr (.elem h g sz (off + m.toNat) 0)) .ret else .fail).run σ = some σ' := hr
    rw [Prog.run_ite] at hr
    split at hr
    · rename_i hc
      obtain ⟨h0, h1, rfl⟩ := hc
      obtain ⟨_, hR⟩ := rel_leaf hS rfl (fun g => by simp)
      obtain ⟨a', c', e1, e2, e3, e4, e5⟩ := hR
      cases a' with
      | none => have := e3 rfl; omega
      | some ad =>
        have hsp := e4 ad rfl (by omega)
        refine value_end (hC.pushLeaf (h := .slot 0 0) (v := .ptr (.elem h g sz' (off + m.toNat) 0)) (x := .pointer (some (ad.add (m.toNat * sz')))) rfl rfl ⟨_, rfl, fun hvl => ?_⟩ ?_) (Grow.refl _ _ _) (WSame.refl _) hr K (hrun ad _ _ e1 h0 h1)
        · obtain ⟨a0, l, c, f1, f2⟩ := e5 hvl
          obtain ⟨ad0, rfl, f3, f4⟩ := f2 (by omega)
          cases f3
          refine ⟨ad0, l, c, f1, ?_⟩
          rw [add_spot rfl]
          simp only [Addr.mk.injEq, true_and, and_true]
          rw [Nat.add_mul]; omega
        · intro r hr'
          exact hrf r (by simpa [V.refs, V.leaves, V.refs1] using hr')
    · cases hr
  case xsl g sz' es =>
    cases x' with
    | val v' => cases hr
    | tmp t0 =>
      replace hr : (if 0 ≤ m ∧ m < es.length ∧ sz' = sz then putO o.dst (.ptr (.elem (.slot t0 0) g sz m.toNat 0)) .ret else .fail).run σ = some σ' := hr
      rw [Prog.run_ite] at hr
      split at hr
      · rename_i hc
        obtain ⟨h0, h3, rfl⟩ := hc
        obtain ⟨_, hR⟩ := rel_leaf hS rfl (fun g => by simp)
        have ht0 : t0 < n := by
          rcases Nat.lt_or_ge t0 n with h | h
          · exact h
          · have := h1 t0 rfl; rw [hC.slotBig (by omega)] at this; cases this
        have hsl := h1 t0 rfl
        simp only [OpdOk] at hok
        obtain ⟨ad, cap, e1, e2, e3, e4, e5, e6⟩ := hR
        obtain ⟨ad', arr, T, f, f1, _⟩ := e5 (by omega)
        subst f1
        have hsp := e4 ad' rfl (by omega)
        refine value_end (hC.pushLeaf (h := .slot 0 0) (v := .ptr (.elem (.slot t0 0) g sz' m.toNat 0)) (x := .pointer (some (ad'.add (m.toNat * sz')))) rfl rfl ⟨_, rfl, fun hvl => ?_⟩ ?_) (Grow.refl _ _ _) (WSame.refl _) hr K (hrun ad' _ _ e1 h0 (by omega))
        · refine ⟨ad', es.length, cap, ?_, by rw [add_spot hsp]; rfl⟩
          obtain ⟨x2, hx2'⟩ := exists_getElem? (l := a.tmps.toList) (i := t0) (hC.tl ▸ ht0)
          rw [getD_of_getElem? hx2'] at hok
          simp only [hd, List.append_nil, hx2', Option.bind_some]
          rw [hok, e1]; rfl
        · intro r hr'
          simp only [V.refs1, List.mem_singleton] at hr'
          subst hr'
          refine ⟨fun t i e => (by cases e; exact ht0), .xsl g sz' es, ?_, by simp [V.nextg]⟩
          rw [ct_append_left _ _ _ _ _ (hC.sl ▸ ht0)]
          show (σ.slot t0).leaves[0]? = some _
          rw [← hsl]; rfl
      · cases hr
  case asl r len =>
    replace hr : (if 0 ≤ m ∧ m < len ∧ sz = 1 then optV (ptrOff m.toNat (.ptr r)) fun v => putO o.dst v .ret else .fail).run σ = some σ' := hr
    rw [Prog.run_ite] at hr
    split at hr
    · rename_i hc
      obtain ⟨h0, h3, rfl⟩ := hc
      obtain ⟨v, hv, hr⟩ := optV_run hr
      obtain ⟨_, hR⟩ := rel_leaf hS rfl (fun g => by simp)
      have hp : ∃ (ad : Addr) (c : Nat), a.eval x = .slice (some ad) len c ∧ RelV E (σ.slots ++ []) σ.objs (a.tmps.toList ++ []) w.heap (.slot s 0) (.ptr r) (.pointer (some ad)) := by
        cases r with
        | obj ob off => obtain ⟨c, e, _, hal⟩ := hR; exact ⟨_, c, e, rfl, hal⟩
        | elem h g sz i off => obtain ⟨ad, c, e1, e2, es, e3⟩ := hR; exact ⟨ad, c, e1, ad, rfl, e3⟩
      obtain ⟨ad, c, e, hR2⟩ := hp
      obtain ⟨ad2, e2, hR3, r1, r2, r3⟩ := ptrOff_rel hR2 hv
      cases e2
      refine value_end (hC.pushLeaf r2 r3 hR3 ?_) (Grow.refl _ _ _) (WSame.refl _) hr K ?_
      · rw [r1]; intro q hq
        refine hrf q ?_
        rw [V.refs, leaves_leaf rfl]
        simp only [List.flatMap_cons, List.flatMap_nil, List.append_nil]
        cases r with
        | obj => cases hq
        | elem => exact hq
      · have := hrun ad _ _ e h0 h3
        rw [Nat.mul_one] at this; exact this
    · cases hr
end
end Go.Vq
namespace Go.Vq
section
variable {n : Nat} {E : Env} {slots : List V} {objs : List (Option Obj)} {vals : List Value} {H : Array Go.Obj}
def intoObj (N o : Nat) : Home → Home
  | .slot s i => if s = N then .obj o i else .slot s i
  | h => h
def Env.addObj (E : Env) (N o b : Nat) : Env :=
  { tag := fun b' => if b' = b then .obj o else (E.retag (intoObj N o)).tag b', addr := fun o' => if o' = o then b else E.addr o' }
theorem lt_of_getElem?' {H : Array Go.Obj} {b : Nat} {x : Go.Obj} (h : H[b]? = some x) : b < H.size := by
  rcases Nat.lt_or_ge b H.size with h1 | h1
  · exact h1
  · rw [Array.getElem?_eq_none h1] at h; cases h
theorem push_old {H : Array Go.Obj} {x : Go.Obj} {b : Nat} (hb : b < H.size) : (H.push x)[b]? = H[b]? := by
  rw [Array.getElem?_push_lt hb, Array.getElem?_eq_getElem hb]
theorem cellAt_push {H : Array Go.Obj} {x : Go.Obj} {b i : Nat} (hb : b < H.size) : cellAt (H.push x) b i = cellAt H b i := by
  simp only [cellAt, push_old hb]
theorem obj1_rel {slots : List V} {objs : List (Option Obj)} {vals : List Value} {h : Home} {u : V} {y : Value} (hR : RelV E slots objs vals H h u y) : RelV E slots objs vals H h (obj1 u) y := by
  cases u <;> first | exact hR | skip
  have := relV_toVal hR rfl
  subst this
  exact ⟨none, 0, rfl, Nat.le_refl _, fun _ => rfl, fun _ h => (by cases h), fun h => absurd rfl h, Elems.nil _ _ _ _⟩
theorem Core.newObj {v : V} {x : Value} {cs : List V} {arr : Array Value} {T : TypeId} {f : Nat × Nat} {o : Nat} (hC : Core n E (slots ++ [v]) objs (vals ++ [x]) H) (hn : n ≤ slots.length)
    (ho : objs[o]? = some none) (hlen : cs.length = v.leaves.length) (hcs : ∀ (i : Nat) (u : V), v.leaves[i]? = some u → ∃ w, cs[i]? = some w ∧ regen1 (.gone 0) (obj1 u) = some w) (hin : ∀ u ∈ cs, u.inObj = true)
    (harr : arr.toList = vleaves x) (hsz : arr.size = cs.length) (hf : open_ f arr.size) :
    Core n (E.addObj slots.length o H.size) slots (objs.set o (some (.cells cs))) vals (H.push (.cells arr T f)) := by
  have hl : slots.length = vals.length := by have := hC.len; simpa using this
  have holt := lt_of_getElem? ho
  have hdead : ¬ alive objs o := by rintro ⟨y, hy⟩; rw [ho] at hy; cases hy
  have hvN : (slots ++ [v])[slots.length]? = some v := by simp
  have hxN : (vals ++ [x])[slots.length]? = some x := by rw [hl]; simp
  have hbnd : ∀ b, E.tag b ≠ .other → b < H.size := by
    intro b hb
    rcases Nat.lt_or_ge b H.size with h | h
    · exact h
    · exact absurd (hC.fresh b h) hb
  have htag : ∀ b, b < H.size → (E.addObj slots.length o H.size).tag b = (E.retag (intoObj slots.length o)).tag b := by
    intro b hb
    simp only [Env.addObj]; rw [if_neg (by omega)]
  have c1 : ∀ b i, E.imm b i → (E.addObj slots.length o H.size).imm b i ∧ cellAt (H.push (.cells arr T f)) b i = cellAt H b i := by
    intro b i hi
    have hb : b < H.size := hbnd b (by intro h; simp [Env.imm, h] at hi)
    refine ⟨?_, cellAt_push hb⟩
    have := (Env.retag_c1 E (intoObj slots.length o) H b i hi).1
    simp only [Env.imm, htag b hb]; exact this
  have c3 : ∀ o', alive objs o' → (E.addObj slots.length o H.size).addr o' = E.addr o' ∧ alive (objs.set o (some (.cells cs))) o' := by
    intro o' h
    have : o' ≠ o := by rintro rfl; exact hdead h
    exact ⟨by simp only [Env.addObj]; rw [if_neg this], alive_set h⟩
  have hhd : ∀ h u, (∀ t i, h = .slot t i → t < n) → ct (slots ++ [v]) objs h = some u → hd (E.addObj slots.length o H.size) vals (H.push (.cells arr T f)) h = hd E (vals ++ [x]) H h := by
    intro h u hs hu
    cases h with
    | slot s i =>
      have := hs s i rfl
      simp only [hd]; rw [List.getElem?_append_left (by omega)]
    | obj o' i =>
      simp only [ct] at hu
      split at hu
      · rename_i cs' ho'
        obtain ⟨arr', T', f', h1, _⟩ := hC.obj o' cs' ho'
        simp only [hd, (c3 o' ⟨_, ho'⟩).1]
        exact cellAt_push (lt_of_getElem?' h1)
      · cases hu
  have hct : ∀ h u, (∀ t i, h = .slot t i → t < n) → ct (slots ++ [v]) objs h = some u → ct slots (objs.set o (some (.cells cs))) h = some u := by
    intro h u hs hu
    cases h with
    | slot s i => rw [ct_append_left _ _ _ _ _ (by have := hs s i rfl; omega)] at hu; exact hu
    | obj o' i =>
      simp only [ct] at hu ⊢
      have : o' ≠ o := by rintro rfl; rw [ho] at hu; cases hu
      rw [List.getElem?_set_ne (fun e => this e.symm)]; exact hu
  have hk : HomesKept n E (slots ++ [v]) objs (vals ++ [x]) H (E.addObj slots.length o H.size) slots (objs.set o (some (.cells cs))) vals (H.push (.cells arr T f)) :=
    fun h u hs hu _ => ⟨u, hct h u hs hu, Nat.le_refl _, .inl ⟨rfl, hhd h u hs hu⟩⟩
  have hhome : ∀ b h, E.tag b = .home h → (E.addObj slots.length o H.size).tag b = .home (intoObj slots.length o h) ∧ (H.push (.cells arr T f))[b]? = H[b]? := by
    intro b h hb
    have hlt := hbnd b (by rw [hb]; simp)
    exact ⟨by rw [htag b hlt, Env.retag_home hb], push_old hlt⟩
  have htail : ∀ b m h, E.tag b = .tail h m → (E.addObj slots.length o H.size).tag b = .tail (intoObj slots.length o h) m ∧ (H.push (.cells arr T f))[b]? = H[b]? := by
    intro b m h hb
    have hlt := hbnd b (by rw [hb]; simp)
    exact ⟨by rw [htag b hlt, Env.retag_tail hb], push_old hlt⟩
  have hleaf : ∀ {s i : Nat} {v' u : V} {x' y : Value}, (slots ++ [v])[s]? = some v' → (vals ++ [x])[s]? = some x' → v'.leaves[i]? = some u → (vleaves x')[i]? = some y →
      RelV (E.addObj slots.length o H.size) slots (objs.set o (some (.cells cs))) vals (H.push (.cells arr T f)) (intoObj slots.length o (.slot s i)) u y := by
    intro s i v' u x' y h1 h2 h3 h4
    exact ((hC.slot s v' x' h1 h2).2 i u y h3 h4).move c1 (fun _ b hb => hhome b _ hb) (fun _ b m hb => htail b m _ hb) (fun o' _ h => c3 o' h) (fun o' _ _ _ h => c3 o' h) fun r hr sz hvl =>
      hk.c4 (hC.refs s v' h1 r (mem_refs h3 hr)) sz hvl
  refine ⟨hl, hn, fun s u y hs hy => ?_, fun o' cs' ho' => ?_, fun b hb => ?_, fun s u hs r hr => ?_⟩
  · have hs1 := lt_of_getElem? hs
    have hs' : (slots ++ [v])[s]? = some u := by rw [List.getElem?_append_left hs1]; exact hs
    have hy' : (vals ++ [x])[s]? = some y := by rw [List.getElem?_append_left (hl ▸ hs1)]; exact hy
    refine ⟨(hC.slot s u y hs' hy').1, fun i w z hw hz => ?_⟩
    have := hleaf hs' hy' hw hz
    simp only [intoObj] at this
    rw [if_neg (by omega)] at this
    exact this
  · by_cases hoo : o' = o
    · subst hoo
      rw [List.getElem?_set_self holt] at ho'
      cases ho'
      refine ⟨arr, T, f, ?_, ?_, hsz, hf, fun i u y hu hy => ?_, hin⟩
      · simp [Env.addObj]
      · simp [Env.addObj]
      · obtain ⟨u0, hu0⟩ := exists_getElem? (l := v.leaves) (i := i) (by have := lt_of_getElem? hu; omega)
        obtain ⟨w, w1, w2⟩ := hcs i u0 hu0
        rw [hu] at w1; cases w1
        have := hleaf hvN hxN hu0 (by rw [← harr]; simpa using hy)
        simp only [intoObj, if_true] at this
        exact regen1_rel w2 (obj1_rel this)
    · rw [List.getElem?_set_ne (fun e => hoo e.symm)] at ho'
      obtain ⟨arr', T', f', h1, h2, h3, h4, h5, h6⟩ := hC.obj o' cs' ho'
      have hlt := lt_of_getElem?' h1
      have e1 := (c3 o' ⟨_, ho'⟩).1
      refine ⟨arr', T', f', by rw [e1, push_old hlt]; exact h1, by rw [e1, htag _ hlt, Env.retag_obj h2], h3, h4, fun i u y hu hy => ?_, h6⟩
      refine (h5 i u y hu hy).move c1 (fun _ b hb => hhome b _ hb) (fun _ b m hb => htail b m _ hb) (fun o' _ h => c3 o' h) (fun o' _ _ _ h => c3 o' h) fun r hr => ?_
      rw [V.inObj_refs1 (h6 u (List.mem_of_getElem? hu))] at hr; cases hr
  · simp only [Array.size_push] at hb
    rw [show (E.addObj slots.length o H.size).tag b = (E.retag (intoObj slots.length o)).tag b by simp only [Env.addObj]; rw [if_neg (by omega)]]
    exact Env.retag_other (hC.fresh b (by omega))
  · have hs' : (slots ++ [v])[s]? = some u := by rw [List.getElem?_append_left (lt_of_getElem? hs)]; exact hs
    have := hC.refs s u hs' r hr
    exact ⟨this.1, hk.bound this⟩
end
section
variable {P : Program} {n base : Nat} {E E' : Env} {σ σ' : St} {hs : List V} {ts xs : List Value} {H H' : Array Go.Obj}
variable {callee : Callee} {o : Oper} {a : Act} {w : World} {next : Act → World → Prop} {Q : Exit → Act → World → Prop}
theorem CoreS.newObj {v : V} {x : Value} {cs : List V} {arr : Array Value} {T : TypeId} {f : Nat × Nat} {ob : Nat} (hC : CoreS n E σ (hs ++ [v]) ts (xs ++ [x]) H)
    (ho : σ.obj ob = none) (hlt : ob < σ.objs.length) (hlen : cs.length = v.leaves.length) (hcs : ∀ (i : Nat) (u : V), v.leaves[i]? = some u → ∃ w, cs[i]? = some w ∧ regen1 (.gone 0) (obj1 u) = some w) (hin : ∀ u ∈ cs, u.inObj = true)
    (harr : arr.toList = vleaves x) (hsz : arr.size = cs.length) (hf : open_ f arr.size) :
    CoreS n (E.addObj (n + hs.length) ob H.size) (σ.setO ob (some (.cells cs))) hs ts xs (H.push (.cells arr T f)) := by
  have h1 := hC.core
  rw [← List.append_assoc, ← List.append_assoc] at h1
  have ho' : σ.objs[ob]? = some none := by
    simp only [St.obj, List.getD, List.getElem?_eq_getElem hlt, Option.getD_some] at ho
    rw [List.getElem?_eq_getElem hlt, ho]
  have h2 := h1.newObj (by simp [hC.sl]) ho' hlen hcs hin harr hsz hf (T := T)
  rw [show (σ.slots ++ hs).length = n + hs.length from by simp [hC.sl]] at h2
  exact ⟨hC.sl, hC.tl, h2⟩
theorem Grow.addObj {N ob : Nat} {x : Go.Obj} (hf : ∀ b, H.size ≤ b → E.tag b = .other) (hb : base ≤ ob) : Grow base E H (E.addObj N ob H.size) (H.push x) := by
  have htag : ∀ b, b < H.size → (E.addObj N ob H.size).tag b = (E.retag (intoObj N ob)).tag b := by
    intro b hb
    simp only [Env.addObj]; rw [if_neg (by omega)]
  have hbnd : ∀ b, E.tag b ≠ .other → b < H.size := by
    intro b hb
    rcases Nat.lt_or_ge b H.size with h | h
    · exact h
    · exact absurd (hf b h) hb
  refine ⟨by simp, fun b i hi => ?_, fun b hb ho => ?_, fun b hi => ?_, fun b m hi => ?_, fun o ho => ?_⟩
  · have hb : b < H.size := hbnd b (by intro h; simp [Env.imm, h] at hi)
    refine ⟨?_, cellAt_push hb⟩
    have := (Env.retag_c1 E (intoObj N ob) H b i hi).1
    simp only [Env.imm, htag b hb]; exact this
  · exact ⟨by rw [htag b hb, Env.retag_other ho], push_old hb⟩
  · have hb : b < H.size := hbnd b (by rw [hi]; simp)
    exact ⟨by rw [htag b hb, Env.retag_immTag hi], push_old hb⟩
  · have hb : b < H.size := hbnd b (by rw [hi]; simp)
    exact ⟨by rw [htag b hb]; simp [Env.retag, hi], push_old hb⟩
  · simp only [Env.addObj]; rw [if_neg (by omega)]
theorem CoreS.pushNew {cs : List V} {arr : Array Value} {T : TypeId} {f : Nat × Nat} {ob N : Nat} (hC : CoreS n (E.addObj N ob H.size) (σ.setO ob (some (.cells cs))) hs ts xs (H.push (.cells arr T f))) (hlt : ob < σ.objs.length) :
    CoreS n (E.addObj N ob H.size) (σ.setO ob (some (.cells cs))) (hs ++ [.ptr (.obj ob 0)]) ts (xs ++ [.pointer (some ⟨H.size, 0, none⟩)]) (H.push (.cells arr T f)) := by
  refine hC.pushLeaf (h := .slot 0 0) rfl rfl ⟨by simp [Env.addObj], ?_⟩ (by intro r hr; cases hr)
  exact ⟨.cells cs, by simp only [St.setO]; rw [List.getElem?_set_self hlt]⟩
theorem open_00 (m : Nat) : open_ (0, 0) m := ⟨Nat.le_refl _, fun i _ h => by omega⟩
theorem valOf_plain {t : TypeId} {x : Value} {v : V} (h : valOf P t x = some v) : v.plain = true := by
  unfold valOf at h
  split at h
  · unfold nilOf at h
    simp only [Option.bind_eq_bind, Option.pure_def] at h
    obtain ⟨d, hd, h⟩ := Option.bind_eq_some_iff.1 h
    split at h
    · obtain ⟨z, hz, h⟩ := Option.bind_eq_some_iff.1 h
      cases h; rfl
    · cases h
  · unfold plainV at h
    split at h <;> first | (cases h; done) | (cases h; rfl)
theorem plain_obj1 {u : V} (h : u.plain = true) : regen1 (.gone 0) (obj1 u) = some (obj1 u) ∧ (obj1 u).inObj = true := by
  cases u <;> first | (simp [V.plain] at h; done) | exact ⟨rfl, rfl⟩
theorem op_alloc {t : TypeId} {s : Nat} {zs : List V} (ho : o.op = .alloc t) (hz : zeroOf P t = some zs) (hC : CoreS n E σ [] a.tmps.toList [] w.heap)
    (hr : (opProg callee base o.dst (.alloc s (zs.map obj1))).run σ = some σ') (K : NextOk n base E σ' a w next) : o.upon P a next Q ((execOp a.eval o).run P w) := by
  simp only [opProg, Prog.run] at hr
  split at hr
  · rename_i hob
    simp only [Prog.run] at hr
    split at hr
    · rename_i hlt
      unfold zeroOf at hz
      simp only [Option.bind_eq_bind] at hz
      obtain ⟨inf, hi, hz⟩ := Option.bind_eq_some_iff.1 hz
      obtain ⟨z, hz1, hz⟩ := Option.bind_eq_some_iff.1 hz
      obtain ⟨tys, _, hz⟩ := Option.bind_eq_some_iff.1 hz
      obtain ⟨h1, h2⟩ := valsOf_rel hz
      have hall : ∀ u ∈ zs, u.plain = true := by
        intro u hu
        obtain ⟨i, hi, rfl⟩ := List.getElem_of_mem hu
        obtain ⟨t', ht'⟩ := h2 i _ _ (List.getElem?_eq_getElem hi) (List.getElem?_eq_getElem (by omega))
        exact valOf_plain ht'
      have hcon := aggConst hz
      have hC1 := hC.push (v := .agg zs) (x := .agg z.cells) (fun u hu => hcon.2.2 u hu) (hcon.1 _ _ _ _ _ _) (by rw [hcon.2.1]; intro r hr; cases hr)
      have hC2 := hC1.newObj (T := t) (f := (0, 0)) (cs := zs.map obj1) (arr := z.cells) hob hlt (by simp [V.leaves]) (fun i u hu => ⟨obj1 u, by
          simp only [V.leaves] at hu; rw [List.getElem?_map, hu]; rfl, (plain_obj1 (hall u (List.mem_of_getElem? hu))).1⟩)
        (by intro u hu; obtain ⟨u0, hu0, rfl⟩ := List.mem_map.1 hu; exact (plain_obj1 (hall u0 hu0)).2) rfl (by simpa using h1.symm) (open_00 _)
      refine value_end (w1 := { w with heap := w.heap.push (.cells z.cells t (0, 0)) }) (hC2.pushNew hlt) (Grow.addObj hC.core.fresh (by omega)) ⟨rfl, rfl, rfl⟩ hr K ?_
      simp [execOp, ho, Instr.alloc, zeroValue, typeInfo, hi, hz1, newVar, newRow]
    · cases hr
  · cases hr
end
end Go.Vq
namespace Go.Vq
section
variable {P : Program} {n base : Nat} {E E' : Env} {σ σ' : St} {hs : List V} {ts xs : List Value} {H H' : Array Go.Obj}
variable {callee : Callee} {o : Oper} {a : Act} {w : World} {next : Act → World → Prop} {Q : Exit → Act → World → Prop}
theorem here_cells {slots : List V} {objs : List (Option Obj)} {vals : List Value} {s : Nat} {v : V} {x : Value} (hS : SlotRel E slots objs vals H s v x) (hv : v.here = true) :
    v.cells = v.leaves ∧ x.cells.toList = vleaves x ∧ x.cells.size = v.leaves.length := by
  by_cases hl : v.leaf = true
  · have hg : ∀ g, v ≠ .gone g := by rintro g rfl; cases hv
    obtain ⟨h1, _⟩ := rel_leaf hS hl hg
    refine ⟨by rw [cells_leaf hl, leaves_leaf hl], ?_, ?_⟩
    · rw [vleaves_leaf h1]; cases x <;> first | (simp [leafX] at h1; done) | rfl
    · rw [leaves_leaf hl]; cases x <;> first | (simp [leafX] at h1; done) | rfl
  · cases v <;> first | (exact absurd rfl hl) | skip
    · obtain ⟨⟨ys, rfl, h⟩, _⟩ := hS
      exact ⟨rfl, rfl, by simp [V.leaves, Value.cells, h]⟩
    · cases hv
theorem here_leafX {slots : List V} {objs : List (Option Obj)} {vals : List Value} {s : Nat} {v : V} {x : Value} (hS : SlotRel E slots objs vals H s v x) (hv : v.here = true) : ∀ z ∈ vleaves x, leafX z = true := by
  obtain ⟨e1, e2, e3⟩ := here_cells hS hv
  intro z hz
  obtain ⟨i, hi⟩ := List.mem_iff_getElem?.1 hz
  have hlt := lt_of_getElem? hi
  obtain ⟨u, hu⟩ := exists_getElem? (l := v.leaves) (i := i) (by rw [← e3, ← Array.length_toList, e2]; exact hlt)
  refine relV_leafX (hS.2 i u z hu hi) ?_
  rintro g rfl
  cases v <;> first | (simp [V.here] at hv; done) | (cases i <;> simp [V.leaves] at hu; done) | skip
  simp only [V.here, List.all_eq_true] at hv
  have := hv _ (List.mem_of_getElem? hu)
  simp at this
theorem op_box {t : TypeId} {s m : Nat} {x : Operand} {x' : Opd} (ho : o.op = .box t x) (hx : opd P t x = some x') (hC : CoreS n E σ [] a.tmps.toList [] w.heap)
    (hr : (opProg callee base o.dst (.box s m x')).run σ = some σ') (K : NextOk n base E σ' a w next) : o.upon P a next Q ((execOp a.eval o).run P w) := by
  obtain ⟨E1, σ1, v, hC1, hG1, _, hr, _⟩ := gMove_sound (base := base) _ hC (opd_ok a hx) hr
  simp only [Prog.run] at hr
  split at hr
  · rename_i hob
    split at hr
    · rename_i cs hcs
      rw [Prog.run_ite] at hr
      split at hr
      · rename_i hc
        obtain ⟨hin, hlen, hv⟩ := hc
        simp only [Prog.run] at hr
        split at hr
        · rename_i hlt
          obtain ⟨r1, r2, _⟩ := regens_some _ _ _ hcs
          obtain ⟨e1, e2, e3⟩ := here_cells (hand_rel hC1) hv
          have hC2 := hC1.newObj (T := t) (f := (0, 0)) (cs := cs) (arr := (a.eval x).cells) hob hlt (by rw [r1, List.length_map, e1]) (fun i u hu => by
              obtain ⟨w1, w2, w3⟩ := r2 i (obj1 u) (by rw [List.getElem?_map, e1, hu]; rfl)
              exact ⟨w1, w2, by simpa using w3⟩)
            (fun u hu => List.all_eq_true.1 hin u hu) e2 (by rw [e3, r1, List.length_map, e1]) (open_00 _)
          refine value_end (w1 := { w with heap := w.heap.push (.cells (a.eval x).cells t (0, 0)) }) (hC2.pushNew hlt) (hG1.trans (Grow.addObj hC1.core.fresh (by omega))) ⟨rfl, rfl, rfl⟩ hr K ?_
          simp [execOp, ho, Instr.box, newVar, newRow]
        · cases hr
      · cases hr
    · cases hr
  · cases hr
end
end Go.Vq
namespace Go.Vq
section
variable {P : Program}
def setsA (cur : Array Value) : Nat → List Value → Array Value
  | _, [] => cur
  | k, v :: r => setsA (cur.setIfInBounds k v) (k + 1) r
theorem setsA_size : ∀ (vs : List Value) (cur : Array Value) (k : Nat), (setsA cur k vs).size = cur.size
  | [], _, _ => rfl
  | v :: r, cur, k => by rw [setsA, setsA_size r]; simp
theorem setsA_get : ∀ (vs : List Value) (cur : Array Value) (k j : Nat), k + vs.length ≤ cur.size → (setsA cur k vs)[j]? = if k ≤ j ∧ j < k + vs.length then vs[j - k]? else cur[j]?
  | [], cur, k, j, h => by simp only [setsA, List.length_nil]; rw [if_neg (by omega)]
  | v :: r, cur, k, j, h => by
    simp only [List.length_cons] at h ⊢
    rw [setsA, setsA_get r _ (k + 1) j (by simp; omega)]
    by_cases h1 : k + 1 ≤ j ∧ j < k + 1 + r.length
    · rw [if_pos h1, if_pos (by omega)]
      rw [show j - k = (j - (k + 1)) + 1 by omega, List.getElem?_cons_succ]
    · rw [if_neg h1]
      by_cases h2 : j = k
      · subst h2
        rw [if_pos (by omega)]
        rw [Nat.sub_self, Array.getElem?_setIfInBounds_self_of_lt (by omega)]; rfl
      · rw [if_neg (by omega), Array.getElem?_setIfInBounds_ne (by omega)]
theorem storeCells_run {b off : Nat} {T : TypeId} {f : Nat × Nat} : ∀ (vs : List Value) (i : Nat) (cur : Array Value) (w : World), w.heap[b]? = some (.cells cur T f) → open_ f cur.size → off + i + vs.length ≤ cur.size → (∀ v ∈ vs, leafX v = true) →
    (storeCells ⟨b, off, none⟩ vs i).run P w = .ok () { w with heap := w.heap.setIfInBounds b (.cells (setsA cur (off + i) vs) T f) }
  | [], i, cur, w, hg, hf, hb, h1 => by
    have hlt := lt_of_getElem?' hg
    have : w.heap.setIfInBounds b (.cells cur T f) = w.heap := by
      apply Array.ext_getElem?
      intro j
      by_cases hj : b = j
      · subst hj; rw [Array.getElem?_setIfInBounds_self_of_lt hlt]; exact hg.symm
      · rw [Array.getElem?_setIfInBounds_ne hj]
    simp only [storeCells, setsA, this]; rfl
  | v :: r, i, cur, w, hg, hf, hb, h1 => by
    have hlt := lt_of_getElem?' hg
    simp only [List.length_cons] at hb
    have hadd : (⟨b, off, none⟩ : Addr).add i = ⟨b, off + i, none⟩ := by unfold Addr.add; split <;> simp_all
    have hone : v.oneCell' = true := by have := h1 v (by simp); cases v <;> first | rfl | (simp [leafX] at this)
    have hset : w.setCell ⟨b, off + i, none⟩ v = { w with heap := w.heap.setIfInBounds b (.cells (cur.setIfInBounds (off + i) v) T f) } := by
      simp only [World.setCell]
      congr 1
      apply Array.ext_getElem?
      intro j
      rw [Array.getElem?_modify]
      by_cases hj : b = j
      · subst hj
        rw [if_pos rfl, hg, Array.getElem?_setIfInBounds_self_of_lt hlt]; rfl
      · rw [if_neg hj, Array.getElem?_setIfInBounds_ne hj]
    have hst : (store ((⟨b, off, none⟩ : Addr).add i) v).run P w = .ok () { w with heap := w.heap.setIfInBounds b (.cells (cur.setIfInBounds (off + i) v) T f) } := by
      rw [hadd, run_store P w _ v _ hone]
      have hc : w.cell? ⟨b, off + i, none⟩ = some cur[off + i] := by simp [World.cell?, hg]
      have hz : w.frozen? ⟨b, off + i, none⟩ = false := by
        have := hf.2 (off + i) (by omega)
        simp only [World.frozen?, hg]
        simp only [Bool.and_eq_false_iff, decide_eq_false_iff_not]
        omega
      rw [hc]; simp only [hz, Bool.false_eq_true, if_false, hset]
    have ih := storeCells_run (b := b) (off := off) (T := T) (f := f) r (i + 1) (cur.setIfInBounds (off + i) v) { w with heap := w.heap.setIfInBounds b (.cells (cur.setIfInBounds (off + i) v) T f) }
      (by simp only; rw [Array.getElem?_setIfInBounds_self_of_lt hlt]) (by simpa using hf) (by simp; omega) (fun x hx => h1 x (by simp [hx]))
    simp only [storeCells, Sem.run_bind, hst, Result.andThen_ok, ih, setsA]
    congr 2
    apply Array.ext_getElem?
    intro j
    by_cases hj : b = j
    · subst hj
      rw [Array.getElem?_setIfInBounds_self_of_lt (by simpa using hlt), Array.getElem?_setIfInBounds_self_of_lt hlt, Nat.add_assoc]
    · rw [Array.getElem?_setIfInBounds_ne hj, Array.getElem?_setIfInBounds_ne hj, Array.getElem?_setIfInBounds_ne hj]
end
end Go.Vq
namespace Go.Vq
section
variable {n : Nat} {E : Env} {slots : List V} {objs : List (Option Obj)} {vals : List Value} {H : Array Go.Obj}
theorem splice_get {cs vs : List V} {off j : Nat} (h : off + vs.length ≤ cs.length) : (splice cs off vs)[j]? = if off ≤ j ∧ j < off + vs.length then vs[j - off]? else cs[j]? := by
  unfold splice
  rcases Nat.lt_or_ge j off with h1 | h1
  · rw [if_neg (by omega), List.append_assoc, List.getElem?_append_left (by simp; omega), List.getElem?_take_of_lt h1]
  · rcases Nat.lt_or_ge j (off + vs.length) with h2 | h2
    · rw [if_pos ⟨h1, h2⟩, List.append_assoc, List.getElem?_append_right (by simp; omega)]
      rw [List.length_take, Nat.min_eq_left (by omega), List.getElem?_append_left (by omega)]
    · rw [if_neg (by omega), List.getElem?_append_right (by simp; omega), List.getElem?_drop]
      congr 1
      simp; omega
theorem splice_len {cs vs : List V} {off : Nat} (h : off + vs.length ≤ cs.length) : (splice cs off vs).length = cs.length := by
  simp [splice]; omega
def intoCell (N o off : Nat) : Home → Home
  | .slot s i => if s = N then .obj o (off + i) else .slot s i
  | h => h
theorem regen1_inObj {o v w : V} (h : regen1 o v = some w) (hv : v.inObj = true) : w.inObj = true := by
  cases v <;> simp only [regen1] at h <;> first
    | (cases h; rfl)
    | (split at h <;> first | (cases h; exact hv) | (cases h; rfl) | (cases h; done))
theorem set_old {H : Array Go.Obj} {b b' : Nat} {x : Go.Obj} (h : b' ≠ b) : (H.setIfInBounds b x)[b']? = H[b']? := Array.getElem?_setIfInBounds_ne (fun e => h e.symm)
theorem Core.intoCells {v : V} {x : Value} {cs ns : List V} {arr : Array Value} {T : TypeId} {f : Nat × Nat} {o off : Nat} (hC : Core n E (slots ++ [v]) objs (vals ++ [x]) H) (hn : n ≤ slots.length)
    (ho : objs[o]? = some (some (.cells cs))) (hle : off + v.leaves.length ≤ cs.length) (hns : regens ((cs.drop off).take v.leaves.length) (v.leaves.map obj1) = some ns) (hin : ∀ u ∈ ns, u.inObj = true)
    (hH : H[E.addr o]? = some (.cells arr T f)) (hx : (vleaves x).length = v.leaves.length) :
    Core n (E.retag (intoCell slots.length o off)) slots (objs.set o (some (.cells (splice cs off ns)))) vals (H.setIfInBounds (E.addr o) (.cells (setsA arr off (vleaves x)) T f)) := by
  have hl : slots.length = vals.length := by have := hC.len; simpa using this
  have holt := lt_of_getElem? ho
  have hHlt := lt_of_getElem?' hH
  have hvN : (slots ++ [v])[slots.length]? = some v := by simp
  have hxN : (vals ++ [x])[slots.length]? = some x := by rw [hl]; simp
  obtain ⟨r1, r2, r3⟩ := regens_some _ _ _ hns
  rw [List.length_map] at r1
  obtain ⟨arr0, T0, f0, h1, htag, hsz, hop, hcells, hino⟩ := hC.obj o cs ho
  rw [hH] at h1; cases h1
  have hsl : off + ns.length ≤ cs.length := by omega
  have hne : ∀ b, E.tag b ≠ .obj o → b ≠ E.addr o := by rintro b hb rfl; exact hb htag
  have c1 : ∀ b i, E.imm b i → (E.retag (intoCell slots.length o off)).imm b i ∧ cellAt (H.setIfInBounds (E.addr o) (.cells (setsA arr off (vleaves x)) T f)) b i = cellAt H b i := by
    intro b i hi
    have hb := hne b (by intro h; simp [Env.imm, h] at hi)
    exact ⟨(Env.retag_c1 E _ H b i hi).1, by simp only [cellAt, set_old hb]⟩
  have cal : ∀ o', alive objs o' → alive (objs.set o (some (.cells (splice cs off ns)))) o' := fun o' h => alive_set h
  have hhome : ∀ b h, E.tag b = .home h → (E.retag (intoCell slots.length o off)).tag b = .home (intoCell slots.length o off h) ∧ (H.setIfInBounds (E.addr o) (.cells (setsA arr off (vleaves x)) T f))[b]? = H[b]? :=
    fun b h hb => ⟨Env.retag_home hb, set_old (hne b (by rw [hb]; simp))⟩
  have htail : ∀ b m h, E.tag b = .tail h m → (E.retag (intoCell slots.length o off)).tag b = .tail (intoCell slots.length o off h) m ∧ (H.setIfInBounds (E.addr o) (.cells (setsA arr off (vleaves x)) T f))[b]? = H[b]? :=
    fun b m h hb => ⟨Env.retag_tail hb, set_old (hne b (by rw [hb]; simp))⟩
  have hget : ∀ j, (setsA arr off (vleaves x))[j]? = if off ≤ j ∧ j < off + v.leaves.length then (vleaves x)[j - off]? else arr[j]? := by
    intro j; rw [setsA_get _ _ _ _ (by omega), hx]
  have hold : ∀ i, off ≤ i → i < off + v.leaves.length → ((cs.drop off).take v.leaves.length).getD (i - off) (.gone 0) = cs.getD i (.gone 0) := by
    intro i h1 h2
    rw [List.getD, List.getD, List.getElem?_take_of_lt (by omega), List.getElem?_drop, show off + (i - off) = i by omega]
  have hk : HomesKept n E (slots ++ [v]) objs (vals ++ [x]) H (E.retag (intoCell slots.length o off)) slots (objs.set o (some (.cells (splice cs off ns)))) vals (H.setIfInBounds (E.addr o) (.cells (setsA arr off (vleaves x)) T f)) := by
    intro h u hs hu hp
    cases h with
    | slot s i =>
      have := hs s i rfl
      rw [ct_append_left _ _ _ _ _ (by omega)] at hu
      exact ⟨u, hu, Nat.le_refl _, .inl ⟨rfl, by simp only [hd]; rw [List.getElem?_append_left (by omega)]⟩⟩
    | obj o' i =>
      by_cases hoo : o' = o
      · subst hoo
        simp only [ct, ho] at hu
        have e1 : ct slots (objs.set o' (some (.cells (splice cs off ns)))) (.obj o' i) = (splice cs off ns)[i]? := by simp only [ct, List.getElem?_set_self holt]
        rw [splice_get hsl, r1] at e1
        by_cases hi : off ≤ i ∧ i < off + v.leaves.length
        · rw [if_pos hi] at e1
          obtain ⟨u0, hu0⟩ := exists_getElem? (l := v.leaves.map obj1) (i := i - off) (by simp; omega)
          obtain ⟨w, w1, w2⟩ := r2 _ u0 hu0
          rw [hold i hi.1 hi.2, getD_of_getElem? hu] at w2
          have := regen1_next w2 hp
          exact ⟨w, by rw [e1]; exact w1, this.1, .inr this.2⟩
        · rw [if_neg hi] at e1
          refine ⟨u, by rw [e1]; exact hu, Nat.le_refl _, .inl ⟨rfl, ?_⟩⟩
          simp only [hd, Env.retag, cellAt, Array.getElem?_setIfInBounds_self_of_lt hHlt, hH]
          rw [hget i, if_neg hi]
      · simp only [ct] at hu
        split at hu
        · rename_i cs' ho'
          obtain ⟨arr', T', f', g1, g2, _⟩ := hC.obj o' cs' ho'
          refine ⟨u, by simp only [ct, List.getElem?_set_ne (fun e => hoo e.symm), ho']; exact hu, Nat.le_refl _, .inl ⟨rfl, ?_⟩⟩
          have hb := hne (E.addr o') (by rw [g2]; intro e; cases e; exact hoo rfl)
          simp only [hd, Env.retag, cellAt, set_old hb]
        · cases hu
  have hleaf : ∀ {s i : Nat} {v' u : V} {x' y : Value}, (slots ++ [v])[s]? = some v' → (vals ++ [x])[s]? = some x' → v'.leaves[i]? = some u → (vleaves x')[i]? = some y →
      RelV (E.retag (intoCell slots.length o off)) slots (objs.set o (some (.cells (splice cs off ns)))) vals (H.setIfInBounds (E.addr o) (.cells (setsA arr off (vleaves x)) T f)) (intoCell slots.length o off (.slot s i)) u y := by
    intro s i v' u x' y h1 h2 h3 h4
    exact ((hC.slot s v' x' h1 h2).2 i u y h3 h4).move c1 (fun _ b hb => hhome b _ hb) (fun _ b m hb => htail b m _ hb) (fun o' _ h => ⟨rfl, cal o' h⟩) (fun o' _ _ _ h => ⟨rfl, cal o' h⟩) fun r hr sz hvl =>
      hk.c4 (hC.refs s v' h1 r (mem_refs h3 hr)) sz hvl
  have hcell : ∀ {o' i : Nat} {u : V} {y : Value}, RelV E (slots ++ [v]) objs (vals ++ [x]) H (.obj o' i) u y → u.inObj = true →
      RelV (E.retag (intoCell slots.length o off)) slots (objs.set o (some (.cells (splice cs off ns)))) vals (H.setIfInBounds (E.addr o) (.cells (setsA arr off (vleaves x)) T f)) (.obj o' i) u y := by
    intro o' i u y hR hio
    refine hR.move c1 (fun _ b hb => hhome b _ hb) (fun _ b m hb => htail b m _ hb) (fun o' _ h => ⟨rfl, cal o' h⟩) (fun o' _ _ _ h => ⟨rfl, cal o' h⟩) fun r hr => ?_
    rw [V.inObj_refs1 hio] at hr; cases hr
  refine ⟨hl, hn, fun s u y hs hy => ?_, fun o' cs' ho' => ?_, fun b hb => ?_, fun s u hs r hr => ?_⟩
  · have hs1 := lt_of_getElem? hs
    have hs' : (slots ++ [v])[s]? = some u := by rw [List.getElem?_append_left hs1]; exact hs
    have hy' : (vals ++ [x])[s]? = some y := by rw [List.getElem?_append_left (hl ▸ hs1)]; exact hy
    refine ⟨(hC.slot s u y hs' hy').1, fun i w z hw hz => ?_⟩
    have := hleaf hs' hy' hw hz
    simp only [intoCell] at this
    rw [if_neg (by omega)] at this
    exact this
  · by_cases hoo : o' = o
    · subst hoo
      rw [List.getElem?_set_self holt] at ho'
      cases ho'
      refine ⟨setsA arr off (vleaves x), T, f, ?_, Env.retag_obj htag, by rw [setsA_size, hsz, splice_len hsl], by rw [setsA_size]; exact hop, fun i u y hu hy => ?_, fun u hu => ?_⟩
      · exact Array.getElem?_setIfInBounds_self_of_lt hHlt
      · rw [splice_get hsl, r1] at hu
        rw [hget i] at hy
        by_cases hi : off ≤ i ∧ i < off + v.leaves.length
        · rw [if_pos hi] at hu hy
          obtain ⟨u0, hu0⟩ := exists_getElem? (l := v.leaves) (i := i - off) (by omega)
          obtain ⟨w, w1, w2⟩ := r2 (i - off) (obj1 u0) (by rw [List.getElem?_map, hu0]; rfl)
          rw [hu] at w1; cases w1
          have := hleaf hvN hxN hu0 hy
          simp only [intoCell, if_true] at this
          rw [show off + (i - off) = i by omega] at this
          exact regen1_rel w2 (obj1_rel this)
        · rw [if_neg hi] at hu hy
          exact hcell (hcells i u y hu hy) (hino u (List.mem_of_getElem? hu))
      · obtain ⟨i, hi⟩ := List.mem_iff_getElem?.1 hu
        rw [splice_get hsl] at hi
        split at hi
        · exact hin u (List.mem_of_getElem? hi)
        · exact hino u (List.mem_of_getElem? hi)
    · rw [List.getElem?_set_ne (fun e => hoo e.symm)] at ho'
      obtain ⟨arr', T', f', g1, g2, g3, g4, g5, g6⟩ := hC.obj o' cs' ho'
      have hb := hne (E.addr o') (by rw [g2]; intro e; cases e; exact hoo rfl)
      exact ⟨arr', T', f', (set_old hb).trans g1, Env.retag_obj g2, g3, g4, fun i u y hu hy => hcell (g5 i u y hu hy) (g6 u (List.mem_of_getElem? hu)), g6⟩
  · exact Env.retag_other (hC.fresh b (by simpa using hb))
  · have hs' : (slots ++ [v])[s]? = some u := by rw [List.getElem?_append_left (lt_of_getElem? hs)]; exact hs
    have := hC.refs s u hs' r hr
    exact ⟨this.1, hk.bound this⟩
end
end Go.Vq
namespace Go.Vq
section
variable {P : Program} {n base : Nat} {E E' : Env} {σ σ' : St} {hs : List V} {ts xs : List Value} {H H' : Array Go.Obj}
variable {callee : Callee} {o : Oper} {a : Act} {w : World} {next : Act → World → Prop} {Q : Exit → Act → World → Prop}
theorem CoreS.intoCells {v : V} {x : Value} {cs ns : List V} {arr : Array Value} {T : TypeId} {f : Nat × Nat} {ob off : Nat} (hC : CoreS n E σ (hs ++ [v]) ts (xs ++ [x]) H)
    (ho : σ.obj ob = some (.cells cs)) (hle : off + v.leaves.length ≤ cs.length) (hns : regens ((cs.drop off).take v.leaves.length) (v.leaves.map obj1) = some ns) (hin : ∀ u ∈ ns, u.inObj = true)
    (hH : H[E.addr ob]? = some (.cells arr T f)) (hx : (vleaves x).length = v.leaves.length) :
    CoreS n (E.retag (intoCell (n + hs.length) ob off)) (σ.setO ob (some (.cells (splice cs off ns)))) hs ts xs (H.setIfInBounds (E.addr ob) (.cells (setsA arr off (vleaves x)) T f)) := by
  have h1 := hC.core
  rw [← List.append_assoc, ← List.append_assoc] at h1
  have ho' : σ.objs[ob]? = some (some (.cells cs)) := by
    simp only [St.obj, List.getD] at ho
    cases h : σ.objs[ob]? with
    | none => simp [h] at ho
    | some y => simp [h] at ho; rw [ho]
  have h2 := h1.intoCells (by simp [hC.sl]) ho' hle hns hin hH hx
  rw [show (σ.slots ++ hs).length = n + hs.length from by simp [hC.sl]] at h2
  exact ⟨hC.sl, hC.tl, h2⟩
theorem Grow.intoCells {N ob off : Nat} {x : Go.Obj} (ht : E.tag (E.addr ob) = .obj ob) : Grow base E H (E.retag (intoCell N ob off)) (H.setIfInBounds (E.addr ob) x) := by
  have hne : ∀ b, E.tag b ≠ .obj ob → b ≠ E.addr ob := by rintro b hb rfl; exact hb ht
  refine ⟨by simp, fun b i hi => ?_, fun b hb ho => ⟨Env.retag_other ho, set_old (hne b (by rw [ho]; simp))⟩, fun b hi => ⟨Env.retag_immTag hi, set_old (hne b (by rw [hi]; simp))⟩, fun b m hi => ⟨by simp [Env.retag, hi], set_old (hne b (by rw [hi]; simp))⟩, fun o ho => rfl⟩
  have hb := hne b (by intro h; simp [Env.imm, h] at hi)
  exact ⟨(Env.retag_c1 E _ H b i hi).1, by simp only [cellAt, set_old hb]⟩
theorem op_storeObj {t : TypeId} {p x : Operand} {p' x' : Opd} {m : Nat} (ho : o.op = .store t p x) (hs : szOf P t = some m) (hp : opd0 p = some p') (hx : opd P t x = some x') (hd : o.dst = none)
    {ob off : Nat} (hC : CoreS n E σ [] a.tmps.toList [] w.heap)
    (hpv : RelV E (σ.slots ++ []) σ.objs (a.tmps.toList ++ []) w.heap (.slot 0 0) (.ptr (.obj ob off)) (a.eval p))
    (hr : (gMove (fun i => some (.obj ob (off + i))) x' fun v => if v.cells.length = m ∧ (v.cells.map obj1).all V.inObj ∧ v.here = true then sCells (.obj ob off) (v.cells.map obj1) .ret else .fail).run σ = some σ') (K : NextOk n base E σ' a w next) : o.upon P a next Q ((execOp a.eval o).run P w) := by
  obtain ⟨hpe, _⟩ := hpv
  obtain ⟨E1, σ1, v, hC1, hG1, ha1, hr, _⟩ := gMove_sound (base := base) _ hC (opd_ok a hx) hr
  rw [Prog.run_ite] at hr
  split at hr
  · rename_i hc
    obtain ⟨hlen, hin, hv⟩ := hc
    simp only [sCells, Prog.run] at hr
    split at hr
    · rename_i cs hob
      rw [Prog.run_ite] at hr
      split at hr
      · rename_i hle
        split at hr
        · rename_i ns hns
          simp only [Prog.run] at hr
          split at hr
          · obtain ⟨e1, e2, e3⟩ := here_cells (hand_rel hC1) hv
            obtain ⟨arr, T, f, g1, g2, g3, g4, g5, g6⟩ := hC1.objAt hob
            rw [List.length_map] at hle hns
            rw [e1] at hle hns hin hlen
            obtain ⟨r1, r2, _⟩ := regens_some _ _ _ hns
            have hvl : (vleaves (a.eval x)).length = v.leaves.length := by rw [← e2, ← e3]; simp
            have hC2 := hC1.intoCells hob hle hns (fun u hu => by
              obtain ⟨i, hi⟩ := List.mem_iff_getElem?.1 hu
              obtain ⟨z, hz⟩ := exists_getElem? (l := v.leaves.map obj1) (i := i) (by have := lt_of_getElem? hi; omega)
              obtain ⟨w1, w2, w3⟩ := r2 i z hz
              rw [hi] at w2; cases w2
              exact regen1_inObj w3 (List.all_eq_true.1 hin z (List.mem_of_getElem? hz))) g1 hvl
            have hrun : (execOp a.eval o).run P w = .ok .skip { w with heap := w.heap.setIfInBounds (E1.addr ob) (.cells (setsA arr off (vleaves (a.eval x))) T f) } := by
              have hone : ∀ z ∈ vleaves (a.eval x), leafX z = true := here_leafX (hand_rel hC1) hv
              have hst := storeCells_run (P := P) (b := E1.addr ob) (off := off) (T := T) (f := f) (vleaves (a.eval x)) 0 arr w g1 g4 (by rw [hvl, g3]; omega) hone
              have hsz : (a.eval x).cells.size = m := by rw [e3]; exact hlen
              rw [← ha1] at hpe
              simp only [execOp, ho, hpe, Instr.storeAt, Instr.sureAddr, storeVar, Sem.run_bind, Sem.run_pure, Result.andThen_ok, run_size hs, hsz]
              simp only [ne_eq, not_true_eq_false, if_false, e2, hst, Sem.run_bind, Sem.run_pure, Result.andThen_ok, Nat.add_zero]
            rw [hrun, Oper.upon_skip]
            have hput : a.put o.dst undef = a := by rw [hd]; rfl
            rw [hput]
            cases hr
            exact K _ _ { w with heap := w.heap.setIfInBounds (E1.addr ob) (.cells (setsA arr off (vleaves (a.eval x))) T f) } hC2 (hG1.trans (Grow.intoCells g2)) ⟨rfl, rfl, rfl⟩ rfl
          · cases hr
        · cases hr
      · cases hr
    · cases hr
  · cases hr
end
end Go.Vq
namespace Go.Vq
section
variable {n : Nat} {E E' : Env} {slots slots' : List V} {objs objs' : List (Option Obj)} {vals vals' : List Value} {H H' : Array Go.Obj}
theorem Core.turnM (hC : Core n E slots objs vals H) {h : Home} {u u' : V} (hu : ct slots objs h = some u) (hg : ∀ g, u ≠ .gone g)
    (hin : u'.leaf = true ∧ u'.refs1 = [] ∧ (∀ o off, h = .obj o off → u'.inObj = true))
    (hng : (∀ t i, h = .slot t i → t < n) → u.nextg ≤ u'.nextg ∧ (u'.gen? = u.gen? ∨ ∀ g sz, u'.gen? = some (g, sz) → u.nextg ≤ g))
    (ca : E'.addr = E.addr) (c1 : ∀ b i, E.imm b i → E'.imm b i ∧ cellAt H' b i = cellAt H b i) (c2 : ∀ h' w, h' ≠ h → ct slots objs h' = some w → w.own = true → ∀ b, E.tag b = .home h' → E'.tag b = .home h' ∧ H'[b]? = H[b]?) (c2' : ∀ h' w, h' ≠ h → ct slots objs h' = some w → w.own = true → ∀ b m, E.tag b = .tail h' m → E'.tag b = .tail h' m ∧ H'[b]? = H[b]?)
    (c0 : ∀ b o, E.tag b = .obj o → E'.tag b = .obj o ∧ H'[b]? = H[b]?) (cf : ∀ b, H'.size ≤ b → E'.tag b = .other)
    (hrel : ∀ y, hd E vals H h = some y → RelV E slots objs vals H h u y → RelV E' (setSlots slots h u') (setObjs' objs h u') vals H' h u' y) :
    Core n E' (setSlots slots h u') (setObjs' objs h u') vals H' := by
  have c1' := c1
  have hdE : ∀ h' w, ct slots objs h' = some w → hd E' vals H' h' = hd E vals H h' := by
    intro h' w hw
    cases h' with
    | slot s i => rfl
    | obj o i =>
      simp only [ct] at hw
      split at hw
      · rename_i cs ho
        obtain ⟨arr, T, f, h1, h2, _⟩ := hC.obj o cs ho
        simp only [hd, ca, cellAt, (c0 _ _ h2).2]
      · cases hw
  cases h with
  | slot s off =>
    have hs : s < slots.length := by
      rcases Nat.lt_or_ge s slots.length with hs | hs
      · exact hs
      · exact absurd (ct_slot_big hs hu) (hg 0)
    obtain ⟨v, hv⟩ := exists_getElem? hs
    obtain ⟨x, hx⟩ := exists_getElem? (l := vals) (i := s) (hC.len ▸ hs)
    have hS := hC.slot s v x hv hx
    have e0 : slots.getD s (.gone 0) = v := getD_of_getElem? hv
    simp only [setSlots, setObjs', e0] at hrel ⊢
    rw [ct_getElem? hv] at hu
    have hoff := lt_of_getElem? hu
    have hlf : ∀ w ∈ v.leaves.set off u', w.leaf = true := by
      intro w hw
      rcases List.mem_or_eq_of_mem_set hw with h1 | h1
      · exact hS.leafs w h1
      · subst h1; exact hin.1
    have hvg : ∀ g, v ≠ .gone g := by
      rintro g rfl
      simp at hoff; subst hoff; simp at hu; exact hg g hu.symm
    have hwl : (v.withLeaves (v.leaves.set off u')).leaves = v.leaves.set off u' := withLeaves_leaves hS.formed (by simp) hlf
    have hk : HomesKept n E slots objs vals H E' (slots.set s (v.withLeaves (v.leaves.set off u'))) objs vals H' := by
      intro h w hh hw hp
      have hd0 := hdE _ _ hw
      cases h with
      | slot s' i =>
        have e1 := ct_set slots objs s (v.withLeaves (v.leaves.set off u')) s' i hs
        by_cases hss : s' = s
        · subst hss
          rw [if_pos rfl, hwl] at e1
          rw [ct_getElem? hv] at hw
          by_cases hi : i = off
          · subst hi
            rw [hu] at hw; cases hw
            have := hng (fun t j e => by cases e; exact hh _ _ rfl)
            refine ⟨u', by rw [e1, List.getElem?_set_self hoff], this.1, ?_⟩
            rcases this.2 with h2 | h2
            · exact .inl ⟨h2, hd0⟩
            · exact .inr h2
          · exact ⟨w, by rw [e1, List.getElem?_set_ne (fun e => hi e.symm)]; exact hw, Nat.le_refl _, .inl ⟨rfl, hd0⟩⟩
        · rw [if_neg hss] at e1
          exact ⟨w, by rw [e1]; exact hw, Nat.le_refl _, .inl ⟨rfl, hd0⟩⟩
      | obj o i => exact ⟨w, hw, Nat.le_refl _, .inl ⟨rfl, hd0⟩⟩
    refine ⟨by simp [hC.len], by simpa using hC.real, fun s' w y hs' hy => ?_, fun o cs ho => ?_, cf, fun s' w hs' r hr => ?_⟩
    · by_cases hss : s' = s
      · subst hss
        rw [List.getElem?_set_self hs] at hs'; cases hs'
        rw [hx] at hy; cases hy
        refine ⟨withLeaves_shape hS.formed (by simp) hlf hS.1 hvg, fun i w z hw hz => ?_⟩
        rw [hwl] at hw
        by_cases hi : i = off
        · subst hi
          rw [List.getElem?_set_self hoff] at hw; cases hw
          exact hrel z (by simp only [hd, hx, Option.bind_some]; exact hz) (hS.2 _ u z hu hz)
        · rw [List.getElem?_set_ne (fun e => hi e.symm)] at hw
          exact hC.leaf hk c1' ca hv hx hw hz (fun ho b hb => c2 (.slot s' i) w (by simp [hi]) (by rw [ct_getElem? hv]; exact hw) ho b hb) (fun ho b m hb => c2' (.slot s' i) w (by simp [hi]) (by rw [ct_getElem? hv]; exact hw) ho b m hb)
      · rw [List.getElem?_set_ne (fun e => hss e.symm)] at hs'
        exact ⟨(hC.slot s' w y hs' hy).1, fun i w' z hw hz => hC.leaf hk c1' ca hs' hy hw hz (fun ho b hb => c2 (.slot s' i) w' (by simp [hss]) (by rw [ct_getElem? hs']; exact hw) ho b hb) (fun ho b m hb => c2' (.slot s' i) w' (by simp [hss]) (by rw [ct_getElem? hs']; exact hw) ho b m hb)⟩
    · exact hC.objKept c1' ca ho (fun h => c0 _ _ h) (fun i u hi ho' b hb => c2 (.obj o i) u (by simp) (by simp only [ct, ho]; exact hi) ho' b hb) (fun i u hi ho' b m hb => c2' (.obj o i) u (by simp) (by simp only [ct, ho]; exact hi) ho' b m hb)
    · by_cases hss : s' = s
      · subst hss
        rw [List.getElem?_set_self hs] at hs'; cases hs'
        rw [refs_of_leaves hwl] at hr
        have := hC.refs _ v hv r (mem_set_refs hin.2.1 hr)
        exact ⟨this.1, hk.bound this⟩
      · rw [List.getElem?_set_ne (fun e => hss e.symm)] at hs'
        have := hC.refs s' w hs' r hr
        exact ⟨this.1, hk.bound this⟩
  | obj o off =>
    simp only [ct] at hu
    split at hu
    · rename_i cs ho
      have e0 : objs.getD o none = some (.cells cs) := getD_of_getElem? ho
      have hol := lt_of_getElem? ho
      simp only [setSlots, setObjs', e0] at hrel ⊢
      have hoff := lt_of_getElem? hu
      obtain ⟨arr, T, f, h1, h2, h3, h4, h5, h6⟩ := hC.obj o cs ho
      have hk : HomesKept n E slots objs vals H E' slots (objs.set o (some (.cells (cs.set off u')))) vals H' := by
        intro h w hh hw hp
        have hd0 := hdE _ _ hw
        cases h with
        | slot s' i => exact ⟨w, hw, Nat.le_refl _, .inl ⟨rfl, hd0⟩⟩
        | obj o' i =>
          by_cases hoo : o' = o
          · subst hoo
            simp only [ct, ho] at hw
            simp only [ct, List.getElem?_set_self hol]
            by_cases hi : i = off
            · subst hi
              rw [hu] at hw; cases hw
              have := hng (fun t j e => by cases e)
              refine ⟨u', by rw [List.getElem?_set_self hoff], this.1, ?_⟩
              rcases this.2 with h2 | h2
              · exact .inl ⟨h2, hd0⟩
              · exact .inr h2
            · exact ⟨w, by rw [List.getElem?_set_ne (fun e => hi e.symm)]; exact hw, Nat.le_refl _, .inl ⟨rfl, hd0⟩⟩
          · simp only [ct] at hw
            refine ⟨w, ?_, Nat.le_refl _, .inl ⟨rfl, hd0⟩⟩
            simp only [ct, List.getElem?_set_ne (fun e => hoo e.symm)]
            exact hw
      refine ⟨hC.len, hC.real, fun s' w y hs' hy => ?_, fun o' cs' ho' => ?_, cf, fun s' w hs' r hr => ?_⟩
      · exact ⟨(hC.slot s' w y hs' hy).1, fun i w' z hw hz => hC.leaf hk c1' ca hs' hy hw hz (fun ho b hb => c2 (.slot s' i) w' (by simp) (by rw [ct_getElem? hs']; exact hw) ho b hb) (fun ho b m hb => c2' (.slot s' i) w' (by simp) (by rw [ct_getElem? hs']; exact hw) ho b m hb)⟩
      · by_cases hoo : o' = o
        · subst hoo
          rw [List.getElem?_set_self hol] at ho'; cases ho'
          refine ⟨arr, T, f, by rw [ca]; exact (c0 _ _ h2).2.trans h1, by rw [ca]; exact (c0 _ _ h2).1, by simpa using h3, h4, fun i w z hw hz => ?_, fun w hw => ?_⟩
          · by_cases hi : i = off
            · subst hi
              rw [List.getElem?_set_self hoff] at hw; cases hw
              exact hrel z (by simp only [hd, cellAt, h1]; exact hz) (h5 _ u z hu hz)
            · rw [List.getElem?_set_ne (fun e => hi e.symm)] at hw
              refine (h5 i w z hw hz).move c1' (fun ho' b hb => c2 (.obj o' i) w (by simp [hi]) (by simp only [ct, ho]; exact hw) ho' b hb) (fun ho' b m hb => c2' (.obj o' i) w (by simp [hi]) (by simp only [ct, ho]; exact hw) ho' b m hb) (fun _ _ h => ⟨by rw [ca], alive_set h⟩) (fun _ _ _ _ h => ⟨by rw [ca], alive_set h⟩) fun r hr => ?_
              rw [V.inObj_refs1 (h6 w (List.mem_of_getElem? hw))] at hr; cases hr
          · rcases List.mem_or_eq_of_mem_set hw with h1 | h1
            · exact h6 w h1
            · subst h1; exact hin.2.2 _ _ rfl
        · rw [List.getElem?_set_ne (fun e => hoo e.symm)] at ho'
          exact hC.objKept c1' ca ho' (fun h => c0 _ _ h) (fun i u hi ho2 b hb => c2 (.obj o' i) u (by simp [hoo]) (by simp only [ct, ho']; exact hi) ho2 b hb) (fun i u hi ho2 b m hb => c2' (.obj o' i) u (by simp [hoo]) (by simp only [ct, ho']; exact hi) ho2 b m hb)
      · have := hC.refs s' w hs' r hr
        exact ⟨this.1, hk.bound this⟩
    · cases hu
end
end Go.Vq
namespace Go.Vq
section
variable {P : Program} {n base : Nat} {E E' : Env} {σ σ' : St} {hs : List V} {ts xs : List Value} {H H' : Array Go.Obj}
theorem CoreS.turnHomeM (hC : CoreS n E σ hs ts xs H) {h : Home} {u u' : V} (hu : ct σ.slots σ.objs h = some u) (hg : ∀ g, u ≠ .gone g)
    (hin : u'.leaf = true ∧ u'.refs1 = [] ∧ (∀ o off, h = .obj o off → u'.inObj = true))
    (hng : u.nextg ≤ u'.nextg ∧ (u'.gen? = u.gen? ∨ ∀ g sz, u'.gen? = some (g, sz) → u.nextg ≤ g))
    (ca : E'.addr = E.addr) (c1 : ∀ b i, E.imm b i → E'.imm b i ∧ cellAt H' b i = cellAt H b i) (c2 : ∀ h' w, h' ≠ h → ct (σ.slots ++ hs) σ.objs h' = some w → w.own = true → ∀ b, E.tag b = .home h' → E'.tag b = .home h' ∧ H'[b]? = H[b]?)
    (c2' : ∀ h' w, h' ≠ h → ct (σ.slots ++ hs) σ.objs h' = some w → w.own = true → ∀ b m, E.tag b = .tail h' m → E'.tag b = .tail h' m ∧ H'[b]? = H[b]?)
    (c0 : ∀ b o, E.tag b = .obj o → E'.tag b = .obj o ∧ H'[b]? = H[b]?) (cf : ∀ b, H'.size ≤ b → E'.tag b = .other)
    (hrel : ∀ y, hd E (ts ++ xs) H h = some y → RelV E (σ.slots ++ hs) σ.objs (ts ++ xs) H h u y → RelV E' ((σ.turn h u').slots ++ hs) (σ.turn h u').objs (ts ++ xs) H' h u' y) :
    CoreS n E' (σ.turn h u') hs ts xs H' := by
  obtain ⟨h1, h2⟩ := ct_real' (n := n) (hs := hs) hC.sl hu hg
  refine ⟨by simp [St.turn, setSlots_len, hC.sl], hC.tl, ?_⟩
  have e := setSlots_append (slots := σ.slots) (hs := hs) (u := u') (h := h) (by rw [hC.sl]; exact h2)
  have := hC.core.turnM (u' := u') h1 hg hin (fun _ => hng) ca c1 c2 c2' c0 cf (by rw [e]; exact hrel)
  rw [e] at this
  exact this
theorem CoreS.writeHome (hC : CoreS n E σ hs ts xs H) {h : Home} {g sz : Nat} {es es' : List V} {ad : Addr} {cap : Nat} {arr arr' : Array Value} {T : TypeId} {f : Nat × Nat} (hu : ct σ.slots σ.objs h = some (.xsl g sz es))
    (hy : hd E (ts ++ xs) H h = some (.slice (some ad) es.length cap)) (ht : E.tag ad.block = .home h) (hb : H[ad.block]? = some (.cells arr T f)) (hsz : arr'.size = arr.size) (hel : es'.length = es.length)
    (hE : Elems E.imm (H.setIfInBounds ad.block (.cells arr' T f)) (some ad) sz es') : CoreS n E (σ.turn h (.xsl g sz es')) hs ts xs (H.setIfInBounds ad.block (.cells arr' T f)) := by
  have hlt := lt_of_getElem?' hb
  have hne : ∀ b, E.tag b ≠ .home h → b ≠ ad.block := by rintro b hb rfl; exact hb ht
  refine hC.turnHomeM hu (fun g => by simp) ⟨rfl, rfl, fun _ _ _ => rfl⟩ ⟨Nat.le_refl _, .inl rfl⟩ rfl (fun b i hi => ?_) (fun h' w hne' _ _ b hb' => ?_) (fun h' w hne' _ _ b m hb' => ?_) (fun b o hb' => ?_) (fun b hb' => ?_) fun y hy' hR => ?_
  · have := hne b (by intro e; simp [Env.imm, e] at hi)
    exact ⟨hi, by simp only [cellAt, set_old this]⟩
  · exact ⟨hb', set_old (hne b (by rw [hb']; intro e; cases e; exact hne' rfl))⟩
  · exact ⟨hb', set_old (hne b (by rw [hb']; intro e; cases e))⟩
  · exact ⟨hb', set_old (hne b (by rw [hb']; intro e; cases e))⟩
  · exact hC.core.fresh b (by simpa using hb')
  · rw [hy] at hy'; cases hy'
    obtain ⟨a, cap', e1, e2, e3, e4, e5, e6⟩ := hR
    cases e1
    refine ⟨some ad, cap, by rw [hel], by rw [hel]; exact e2, e3, e4, fun hc => ?_, hE⟩
    obtain ⟨ad', arr0, T0, f0, f1, f2, f3, f4, f5⟩ := e5 hc
    cases f1
    rw [hb] at f3; cases f3
    exact ⟨ad, arr', T, f, rfl, f2, Array.getElem?_setIfInBounds_self_of_lt hlt, by rw [hsz]; exact f4, by rw [hsz]; exact f5⟩
theorem Grow.writeHome {h : Home} {b : Nat} {x : Go.Obj} (ht : E.tag b = .home h) : Grow base E H E (H.setIfInBounds b x) := by
  have hne : ∀ b', E.tag b' ≠ .home h → b' ≠ b := by rintro b' hb rfl; exact hb ht
  refine ⟨by simp, fun b' i hi => ⟨hi, ?_⟩, fun b' _ ho => ⟨ho, set_old (hne b' (by rw [ho]; simp))⟩, fun b' hi => ⟨hi, set_old (hne b' (by rw [hi]; simp))⟩, fun b' m hi => ⟨hi, set_old (hne b' (by rw [hi]; simp))⟩, fun _ _ => rfl⟩
  have := hne b' (by intro e; simp [Env.imm, e] at hi)
  simp only [cellAt, set_old this]
end
end Go.Vq
namespace Go.Vq
section
variable {P : Program} {n base : Nat} {E E' : Env} {σ σ' : St} {hs : List V} {ts xs : List Value} {H H' : Array Go.Obj}
theorem setTag_imm {b : Nat} (b' i : Nat) (h : E.imm b' i) : (E.setTag b .imm).imm b' i := by
  by_cases e : b' = b
  · subst e; simp only [Env.imm, setTag_same]
  · simp only [Env.imm, setTag_ne _ _ e]; exact h
theorem Grow.setImm {b : Nat} {h : Home} (ht : E.tag b = .home h) : Grow base E H (E.setTag b .imm) H := by
  refine ⟨Nat.le_refl _, fun b' i hi => ⟨setTag_imm b' i hi, rfl⟩, fun b' _ ho => ⟨?_, rfl⟩, fun b' hi => ⟨?_, rfl⟩, fun b' m hi => ⟨?_, rfl⟩, fun _ _ => rfl⟩
  · rw [setTag_ne _ _ (by rintro rfl; rw [ht] at ho; cases ho)]; exact ho
  · rw [setTag_ne _ _ (by rintro rfl; rw [ht] at hi; cases hi)]; exact hi
  · rw [setTag_ne _ _ (by rintro rfl; rw [ht] at hi; cases hi)]; exact hi
theorem freeze1_Sound : Sound1 n base (fun _ v k => k (freeze1 v)) (fun u => u.own = false) := by
  intro E σ σ' hs ts xs H w x h i u k hC hu hr
  have hS := hand_rel hC
  have hsame : w.withLeaves (w.leaves.set i u) = w := by rw [set_same hu, withLeaves_same hS.formed]
  have hul := hS.leafs u (List.mem_of_getElem? hu)
  have hstay : ∀ u', u'.leaf = true → u'.refs1 = [] → u'.own = false → freeze1 u = u' → (∀ g, u ≠ .gone g) → (∀ slots' y, RelV E (σ.slots ++ (hs ++ [w])) σ.objs (ts ++ (xs ++ [x])) H (.slot (n + hs.length) i) u y → RelV E slots' σ.objs (ts ++ (xs ++ [x])) H (.slot (n + hs.length) i) u' y) →
      ∃ E1 σ1 u', CoreS n E1 σ1 (hs ++ [w.withLeaves (w.leaves.set i u')]) ts (xs ++ [x]) H ∧ Grow base E H E1 H ∧ E1.addr = E.addr ∧ (k u').run σ1 = some σ' ∧ u'.leaf = true ∧ u'.own = false := by
    intro u' h1 h2 h3 h4 hg h5
    refine ⟨E, σ, u', ?_, Grow.refl _ _ _, rfl, by rw [← h4]; exact hr, h1, h3⟩
    exact hC.turnHand hu hg ⟨h1, h2⟩ rfl (fun _ _ h => h) (fun _ _ _ _ _ _ h => h) (fun _ _ _ _ _ _ _ h => h) (fun _ _ h => h) (fun _ h => h) (fun y _ hR slots' => h5 slots' y hR)
  cases u
  case xsl g sz es =>
    have hwg : ∀ g, w ≠ .gone g := by rintro g rfl; cases i <;> simp [V.leaves] at hu
    obtain ⟨y, hy⟩ := exists_getElem? (l := vleaves x) (i := i) (by rw [← shape_len hS.1 hwg]; exact lt_of_getElem? hu)
    obtain ⟨a, cap, e1, e2, e3, e4, e5, e6⟩ := hS.2 i _ y hu hy
    by_cases hc : cap = 0
    · have hes : es = [] := by cases es with | nil => rfl | cons => simp [hc] at e2
      subst hes
      refine hstay (.isl 0 sz []) rfl rfl rfl rfl (fun g => by simp) fun slots' y' hR => ?_
      obtain ⟨a', cap', f1, f2, f3, f4, f5, f6⟩ := hR
      exact isl_of_view (a := a') (cap := cap') ⟨f1, f2, f3, f4, f6⟩ fun ad i e j _ hi => by simp at hi
    · obtain ⟨ad, arr, T, f, g1, g2, g3, g4, g5⟩ := e5 hc
      refine ⟨E.setTag ad.block .imm, σ, .isl 0 sz es, ?_, Grow.setImm g2, rfl, hr, rfl, rfl⟩
      refine hC.turnHand hu (fun g => by simp) ⟨rfl, rfl⟩ rfl (fun b i h => setTag_imm b i h) (fun h' w' hne _ _ b hb => ?_) (fun h' w' hne _ _ b m hb => ?_) (fun b o hb => ?_) (fun b hb => ?_) (fun y2 hy2 hR slots' => ?_)
      · rw [setTag_ne _ _ (by rintro rfl; rw [g2] at hb; cases hb; exact hne rfl)]; exact hb
      · rw [setTag_ne _ _ (by rintro rfl; rw [g2] at hb; cases hb)]; exact hb
      · rw [setTag_ne _ _ (by rintro rfl; rw [g2] at hb; cases hb)]; exact hb
      · rw [setTag_ne _ _ (by rintro rfl; rw [g2] at hb; cases hb)]; exact hb
      · rw [hy] at hy2; cases hy2
        refine isl_of_view (a := a) (cap := cap) ⟨e1, e2, e3, e4, e6.mono (fun b i h => ⟨setTag_imm b i h, rfl⟩) fun _ _ => rfl⟩ fun ad' i e j ha hi hj => ?_
        rw [g1] at ha; cases ha
        simp only [Env.imm, setTag_same]
  case fsl g sz es =>
    refine hstay (.isl 0 sz es) rfl rfl rfl rfl (fun g => by simp) fun slots' y' hR => ?_
    obtain ⟨ad, cap, e1, e2, e3, e4, e5, e6⟩ := hR
    refine isl_of_view (a := ad) (cap := cap) ⟨e1, e2, e3, e4, e6⟩ fun ad' i e j ha hi hj => ?_
    have hlt := lt_of_getElem? hi
    obtain ⟨ad'', arr, T, f, f1, f2, _⟩ := e5 (by omega)
    rw [ha] at f1; cases f1
    simp only [Env.imm, f2]
    rw [(e6.1 e (List.mem_of_getElem? hi)).1] at hj
    have : (i + 1) * sz ≤ es.length * sz := Nat.mul_le_mul_right _ hlt
    rw [Nat.add_mul] at this; omega
  case isl g sz es =>
    refine hstay (.isl 0 sz es) rfl rfl rfl rfl (fun g => by simp) fun slots' y' hR => ?_
    cases hR with
    | isl _ _ _ a cap xs hc ha hsp hz hx h => exact RelI.isl _ _ _ a cap xs hc ha hsp hz hx h
  case nilS sz =>
    refine hstay (.isl 0 sz []) rfl rfl rfl rfl (fun g => by simp) fun slots' y' hR => ?_
    have := relV_toVal hR rfl
    subst this
    exact isl_of_view (View.of_nil sz) fun ad i e j _ hi => by simp at hi
  all_goals exact ⟨E, σ, _, by simp only [freeze1]; rw [hsame]; exact hC, Grow.refl _ _ _, rfl, hr, hul, rfl⟩
theorem inElem_relI {slots : List V} {objs : List (Option Obj)} {vals : List Value} {h : Home} {u : V} {y : Value} (hR : RelV E slots objs vals H h u y) (hi : u.inElem = true) : RelI E.imm H u y := by
  cases u <;> first | exact hR | (simp [V.inElem] at hi; done)
end
end Go.Vq
namespace Go.Vq
section
variable {P : Program} {n base : Nat} {E E' : Env} {σ σ' : St} {hs : List V} {ts xs : List Value} {H H' : Array Go.Obj}
structure ImmV (E : Env) (H : Array Go.Obj) (v : V) (x : Value) : Prop where
  shape : Shape v x
  formed : v.formed
  cells : ∀ (i : Nat) (u : V) (y : Value), v.leaves[i]? = some u → (vleaves x)[i]? = some y → RelI E.imm H u y
  elem : ∀ u ∈ v.leaves, u.inElem = true
theorem inElem_leaf {u : V} (h : u.inElem = true) : u.leaf = true ∧ u.refs1 = [] ∧ u.own = false ∧ ∀ g, u ≠ .gone g := by
  cases u <;> first | (simp [V.inElem] at h; done) | exact ⟨rfl, rfl, rfl, fun g => by simp⟩
theorem ImmV.mono {v : V} {x : Value} (h : ImmV E H v x) (c1 : ∀ b i, E.imm b i → E'.imm b i ∧ cellAt H' b i = cellAt H b i) : ImmV E' H' v x :=
  ⟨h.shape, h.formed, fun i u y h1 h2 => (h.cells i u y h1 h2).mono c1, h.elem⟩
theorem gImm_sound {o : Opd} {x : Value} {k : V → Prog} (hC : CoreS n E σ hs ts xs H) (ho : OpdOk ts o x) (hr : (gImm o k).run σ = some σ') :
    ∃ E1 σ1 v, CoreS n E1 σ1 hs ts xs H ∧ Grow base E H E1 H ∧ E1.addr = E.addr ∧ (k v).run σ1 = some σ' ∧ ImmV E1 H v x := by
  obtain ⟨v, hr, hv, hrf, h1, h2⟩ := opd_rel (v := .nil) hC ho hr
  rw [Prog.run_ite] at hr
  split at hr
  · rename_i hp
    obtain ⟨y, hy⟩ := plain_toVal hp
    obtain ⟨s, hS, _⟩ := hv
    have e := slot_toVal hS hy
    subst e
    refine ⟨E, σ, freeze1 v, hC, Grow.refl _ _ _, rfl, hr, ?_⟩
    have hx := (toVal_plain hy).2
    have hfl : (freeze1 v).leaf = true ∧ (freeze1 v).inElem = true ∧ RelI E.imm H (freeze1 v) x := by
      have hI := toVal_rel hy E.imm H
      cases v <;> first
        | (simp [V.plain] at hp; done)
        | exact ⟨rfl, rfl, hI⟩
        | (simp only [V.toVal, Option.some.injEq] at hy
           subst hy
           exact ⟨rfl, rfl, isl_of_view (View.of_nil _) fun ad i e j _ hi => by simp at hi⟩)
    refine ⟨shape_leaf hfl.1 hx, by cases v <;> first | trivial | (simp [V.plain] at hp), fun i u y hu hy => ?_, fun u hu => ?_⟩
    · rw [leaves_leaf hfl.1] at hu; rw [vleaves_leaf hx] at hy
      cases i with
      | zero => simp at hu hy; subst hu hy; exact hfl.2.2
      | succ i => simp at hu
    · rw [leaves_leaf hfl.1] at hu; simp at hu; subst hu; exact hfl.2.1
  · obtain ⟨E1, σ1, a1, a2, a3, a4⟩ := grab_sound (base := base) hC hv hrf h1 h2 ho hr
    obtain ⟨E2, σ2, ls, b1, b2, b3, b4, b5, b6⟩ := settle_sound (base := base) (fun _ => none) a1 a4
    have hfo := (hand_rel a1).formed
    have hwl : (v.withLeaves ls).leaves = ls := withLeaves_leaves hfo b5 fun u hu => (b6 u hu).1
    obtain ⟨E3, σ3, ls', c1, c2, c3, c4, c5, c6⟩ := list_sound (base := base) freeze1_Sound (fun _ _ vs k => k (vs.map freeze1)) (fun _ _ _ => rfl) (fun _ _ _ _ _ => rfl) (fun _ => none) (v.withLeaves ls).leaves []
      b1 rfl (k := fun ls => if ls.all V.inElem then k (v.withLeaves ls) else .fail) (by rw [hwl]; exact b4)
    rw [Prog.run_ite] at c4
    split at c4
    · rename_i hin
      have hl5 : ls'.length = v.leaves.length := by rw [c5, hwl]; exact b5
      have e1 : (v.withLeaves ls).withLeaves ([] ++ ls') = v.withLeaves ls' := by
        rw [List.nil_append]; exact withLeaves_twice hfo b5 (fun u hu => (b6 u hu).1) hl5
      rw [e1] at c1
      have hS3 := hand_rel c1
      have hw3 : (v.withLeaves ls').leaves = ls' := withLeaves_leaves hfo hl5 fun u hu => (c6 u hu).1
      refine ⟨E3, σ3, _, c1.pop, (a2.trans b2).trans c2, (c3.trans b3).trans a3, c4, hS3.1, hS3.formed, fun i u y hu hy => ?_, fun u hu => ?_⟩
      · have := List.all_eq_true.1 hin u (by rw [hw3] at hu; exact List.mem_of_getElem? hu)
        exact inElem_relI (hS3.2 i u y hu hy) this
      · rw [hw3] at hu; exact List.all_eq_true.1 hin u hu
    · cases c4
end
end Go.Vq
namespace Go.Vq
section
variable {P : Program} {n base : Nat} {E E' : Env} {σ σ' : St} {hs : List V} {ts xs : List Value} {H H' : Array Go.Obj}
variable {callee : Callee} {o : Oper} {a : Act} {w : World} {next : Act → World → Prop} {Q : Exit → Act → World → Prop}
theorem ImmV.cellsOk {v : V} {x : Value} (h : ImmV E H v x) (hv : v.here = true) : v.cells = v.leaves ∧ x.cells.toList = vleaves x ∧ x.cells.size = v.leaves.length ∧ ∀ z ∈ vleaves x, leafX z = true := by
  have hS : SlotRel E [] [] [] H 0 v x := by
    refine ⟨h.shape, fun i u y hu hy => ?_⟩
    have := h.cells i u y hu hy
    exact (relI_rel (E := E) this (inElem_leaf (h.elem u (List.mem_of_getElem? hu))).1).1 _ _ _ _
  obtain ⟨e1, e2, e3⟩ := here_cells hS hv
  exact ⟨e1, e2, e3, here_leafX hS hv⟩
theorem setCells_ok {e : V} {sz off : Nat} {vs : List V} (he : elemOk sz e) (hvl : ∀ u ∈ vs, u.leaf = true) (h : off + vs.length ≤ e.cells.length) :
    elemOk sz (e.setCells off vs) ∧ ∀ j : Nat, (e.setCells off vs).cells[j]? = if off ≤ j ∧ j < off + vs.length then vs[j - off]? else e.cells[j]? := by
  by_cases hl : e.leaf = true
  · have e1 := cells_leaf hl
    have e2 : e.setCells off vs = vs.headD e := by cases e <;> first | rfl | (simp [V.leaf] at hl)
    rw [e2]
    rw [e1] at h
    cases vs with
    | nil =>
      refine ⟨he, fun j => ?_⟩
      rw [if_neg (by simp)]; rfl
    | cons u us =>
      simp at h
      have : us = [] := by cases us with | nil => rfl | cons => simp at h; omega
      subst this
      have h0 : off = 0 := by simp at h; omega
      subst h0
      have hu := hvl u (by simp)
      simp only [List.headD_cons]
      refine ⟨⟨?_, ?_⟩, fun j => ?_⟩
      · rw [cells_leaf hu]; have := he.1; rw [e1] at this; simpa using this
      · rw [cells_leaf hu]; simp [hu]
      · rw [cells_leaf hu, e1]
        cases j with
        | zero => simp
        | succ j => rw [if_neg (by simp)]; simp
  · cases e <;> first | (exact absurd rfl hl) | skip
    · rename_i cs
      have h' : off + vs.length ≤ cs.length := h
      refine ⟨⟨?_, fun u hu => ?_⟩, fun j => splice_get h'⟩
      · rw [← he.1]; exact splice_len h'
      · obtain ⟨j, hj⟩ := List.mem_iff_getElem?.1 hu
        replace hj : (splice cs off vs)[j]? = some u := hj
        rw [splice_get h'] at hj
        split at hj
        · exact hvl u (List.mem_of_getElem? hj)
        · exact he.2 u (List.mem_of_getElem? hj)
    · have := he.2 _ (List.mem_singleton.2 rfl); simp [V.leaf] at this
theorem elems_set {imm : Nat → Nat → Prop} {ad : Addr} {sz i off : Nat} {es vs : List V} {e : V} {arr : Array Value} {T : TypeId} {f : Nat × Nat} {ys : List Value} (hel : Elems imm H (some ad) sz es) (hb : H[ad.block]? = some (.cells arr T f))
    (hi : es[i]? = some e) (hvl : ∀ u ∈ vs, u.leaf = true) (hle : off + vs.length ≤ e.cells.length) (hys : ys.length = vs.length) (hfit : ad.off + es.length * sz ≤ arr.size)
    (himm : ∀ b j, imm b j → b ≠ ad.block) (hv : ∀ (j : Nat) (u : V) (y : Value), vs[j]? = some u → ys[j]? = some y → RelI imm H u y) :
    Elems imm (H.setIfInBounds ad.block (.cells (setsA arr (ad.off + (i * sz + off)) ys) T f)) (some ad) sz (es.set i (e.setCells off vs)) := by
  have he := hel.1 e (List.mem_of_getElem? hi)
  obtain ⟨k1, k2⟩ := setCells_ok he hvl hle
  have hlt := lt_of_getElem?' hb
  have hilt := lt_of_getElem? hi
  have hrow : (i + 1) * sz ≤ es.length * sz := Nat.mul_le_mul_right _ hilt
  rw [Nat.add_mul] at hrow
  have hsz := he.1
  have hm : ∀ b j, imm b j → imm b j ∧ cellAt (H.setIfInBounds ad.block (.cells (setsA arr (ad.off + (i * sz + off)) ys) T f)) b j = cellAt H b j := fun b j h => ⟨h, by simp only [cellAt, set_old (himm b j h)]⟩
  have hcell : ∀ k, cellAt (H.setIfInBounds ad.block (.cells (setsA arr (ad.off + (i * sz + off)) ys) T f)) ad.block k = if ad.off + (i * sz + off) ≤ k ∧ k < ad.off + (i * sz + off) + ys.length then ys[k - (ad.off + (i * sz + off))]? else arr[k]? := by
    intro k
    simp only [cellAt, Array.getElem?_setIfInBounds_self_of_lt hlt]
    exact setsA_get _ _ _ _ (by omega)
  have hcell0 : ∀ k, cellAt H ad.block k = arr[k]? := by intro k; simp only [cellAt, hb]
  refine ⟨fun z hz => ?_, fun i' z j u hz hu => ?_⟩
  · rcases List.mem_or_eq_of_mem_set hz with h | h
    · exact hel.1 z h
    · exact h ▸ k1
  · by_cases hii : i' = i
    · subst hii
      rw [List.getElem?_set_self hilt] at hz; cases hz
      have hj := lt_of_getElem? hu
      rw [k1.1] at hj
      rw [k2] at hu
      by_cases hin : off ≤ j ∧ j < off + vs.length
      · rw [if_pos hin] at hu
        obtain ⟨y, hy⟩ := exists_getElem? (l := ys) (i := j - off) (by omega)
        refine ⟨ad, y, rfl, ?_, (hv _ u y hu hy).mono hm⟩
        rw [hcell, if_pos (by omega), ← hy]; congr 1; omega
      · rw [if_neg hin] at hu
        obtain ⟨ad', y, e1, e2, e3⟩ := hel.2 i' e j u hi hu
        cases e1
        refine ⟨ad, y, rfl, ?_, e3.mono hm⟩
        rw [hcell, if_neg (by omega), ← hcell0]; exact e2
    · rw [List.getElem?_set_ne (fun h => hii h.symm)] at hz
      obtain ⟨ad', y, e1, e2, e3⟩ := hel.2 i' z j u hz hu
      cases e1
      have hj := lt_of_getElem? hu
      rw [(hel.1 z (List.mem_of_getElem? hz)).1] at hj
      refine ⟨ad, y, rfl, ?_, e3.mono hm⟩
      rw [hcell, if_neg ?_, ← hcell0]
      · exact e2
      · rintro ⟨q1, q2⟩
        rcases Nat.lt_or_gt_of_ne hii with h | h
        · have h3 : (i' + 1) * sz ≤ i * sz := Nat.mul_le_mul_right _ h
          rw [Nat.add_mul] at h3; omega
        · have h3 : (i + 1) * sz ≤ i' * sz := Nat.mul_le_mul_right _ h
          rw [Nat.add_mul] at h3; omega
end
end Go.Vq
namespace Go.Vq
section
variable {P : Program} {n base : Nat} {E E' : Env} {σ σ' : St} {hs : List V} {ts xs : List Value} {H H' : Array Go.Obj}
variable {callee : Callee} {o : Oper} {a : Act} {w : World} {next : Act → World → Prop} {Q : Exit → Act → World → Prop}
theorem op_storeElem {t : TypeId} {p x : Operand} {x' : Opd} {m : Nat} (ho : o.op = .store t p x) (hs : szOf P t = some m) (hx : opd P t x = some x') (hd' : o.dst = none)
    {h : Home} {g sz i off : Nat} (hC : CoreS n E σ [] a.tmps.toList [] w.heap)
    (hpv : RelV E (σ.slots ++ []) σ.objs (a.tmps.toList ++ []) w.heap (.slot 0 0) (.ptr (.elem h g sz i off)) (a.eval p)) (hrf : RefsOk n (σ.slots ++ []) σ.objs [(h, g)])
    (hr : (gImm x' fun v => if v.cells.length = m ∧ v.here = true then sCells (.elem h g sz i off) v.cells .ret else .fail).run σ = some σ') (K : NextOk n base E σ' a w next) : o.upon P a next Q ((execOp a.eval o).run P w) := by
  have hC0 := hC.pushLeaf (v := .ptr (.elem h g sz i off)) (x := a.eval p) rfl rfl hpv hrf
  obtain ⟨E1, σ1, v, hC1, hG1, ha1, hr, hI⟩ := gImm_sound (base := base) hC0 (opd_ok a hx) hr
  rw [Prog.run_ite] at hr
  split at hr
  · rename_i hc
    obtain ⟨hlen, hv⟩ := hc
    obtain ⟨c1, c2, c3, c4⟩ := hI.cellsOk hv
    simp only [sCells] at hr
    replace hr := gElems_run hr
    obtain ⟨u, own, es, hu, hk, hr⟩ := hr
    split at hr
    · rename_i e he
      rcases hk with ⟨rfl, _⟩ | ⟨_, hf⟩
      · rw [Prog.run_ite] at hr
        split at hr
        · rename_i hle
          obtain ⟨d4, d5⟩ := ct_real' (n := n) (hs := [] ++ [V.ptr (.elem h g sz i off)]) hC1.sl hu (fun g => by simp)
          obtain ⟨y, a0, cap, f1, f2, f3, _, _⟩ := hC1.core.homeView d4 (.inl rfl)
          have hilt := lt_of_getElem? he
          have hle2 := f2.le
          obtain ⟨ad, arr, T, f, b1, b2, b3, b4, b5⟩ := f3 rfl (by omega)
          subst b1
          have hvl : valid (σ1.slots ++ ([] ++ [V.ptr (.elem h g sz i off)])) σ1.objs h g sz := ⟨_, d4, rfl⟩
          obtain ⟨_, hRp⟩ := rel_leaf (hand_rel hC1) rfl (fun g => by simp)
          obtain ⟨ad', e1, e2⟩ := hRp
          obtain ⟨ad0, l, c, e3, e4⟩ := e2 hvl
          rw [f1] at e3; cases e3
          have e5 := f2.eq
          injection e5 with e5 e6 e7
          cases e5
          have he1 := (f2.elems.1 e (List.mem_of_getElem? he)).1
          have hrow : (i + 1) * sz ≤ es.length * sz := Nat.mul_le_mul_right _ hilt
          have hrow2 : es.length * sz ≤ cap * sz := Nat.mul_le_mul_right _ hle2
          rw [Nat.add_mul] at hrow
          have hvls : (vleaves (a.eval x)).length = v.cells.length := by rw [← c2, c1, ← c3]; simp
          have hfit : ad.off + (i * sz + off) + 0 + (vleaves (a.eval x)).length ≤ arr.size := by omega
          have hst := storeCells_run (P := P) (b := ad.block) (off := ad.off + (i * sz + off)) (T := T) (f := f) (vleaves (a.eval x)) 0 arr w b3 b5 hfit c4
          have hne : ∀ b j, E1.imm b j → b ≠ ad.block := by rintro b j hb rfl; simp [Env.imm, b2] at hb
          have hE := elems_set (vs := v.cells) f2.elems b3 he (fun u hu => by rw [c1] at hu; exact (inElem_leaf (hI.elem u hu)).1) hle hvls (by omega) hne (fun j u y h1 h2 => hI.cells j u y (by rw [← c1]; exact h1) h2)
          have hC2 := hC1.writeHome (arr' := setsA arr (ad.off + (i * sz + off)) (vleaves (a.eval x))) hu (by rw [f1, f2.eq]) b2 b3 (setsA_size _ _ _) (by simp) hE
          obtain ⟨_, hr⟩ := sHome_run hr
          cases hr
          have hsz : (a.eval x).cells.size = m := by rw [c3, ← c1]; exact hlen
          have hrun : (execOp a.eval o).run P w = .ok .skip { w with heap := w.heap.setIfInBounds ad.block (.cells (setsA arr (ad.off + (i * sz + off)) (vleaves (a.eval x))) T f) } := by
            simp only [execOp, ho, e1, e4, Instr.storeAt, Instr.sureAddr, storeVar, Sem.run_bind, Sem.run_pure, Result.andThen_ok, run_size hs, hsz]
            simp only [ne_eq, not_true_eq_false, if_false, c2, hst, Sem.run_bind, Sem.run_pure, Result.andThen_ok, Nat.add_zero]
          rw [hrun, Oper.upon_skip]
          have hput : a.put o.dst undef = a := by rw [hd']; rfl
          rw [hput]
          exact K _ _ { w with heap := w.heap.setIfInBounds ad.block (.cells (setsA arr (ad.off + (i * sz + off)) (vleaves (a.eval x))) T f) } hC2.pop (hG1.trans (Grow.writeHome b2)) ⟨rfl, rfl, rfl⟩ rfl
        · cases hr
      · cases hf
    · cases hr
  · cases hr
end
end Go.Vq
namespace Go.Vq
section
variable {P : Program} {n base : Nat} {E E' : Env} {σ σ' : St} {hs : List V} {ts xs : List Value} {H H' : Array Go.Obj}
variable {callee : Callee} {o : Oper} {a : Act} {w : World} {next : Act → World → Prop} {Q : Exit → Act → World → Prop}
theorem op_store {t : TypeId} {p x : Operand} {p' x' : Opd} {m : Nat} (ho : o.op = .store t p x) (hs : szOf P t = some m) (hp : opd0 p = some p') (hx : opd P t x = some x') (hd : o.dst = none) (hC : CoreS n E σ [] a.tmps.toList [] w.heap)
    (hr : (opProg callee base o.dst (.store m p' x')).run σ = some σ') (K : NextOk n base E σ' a w next) : o.upon P a next Q ((execOp a.eval o).run P w) := by
  obtain ⟨u, hr1, ⟨s, hS, hs'⟩, hrf, _⟩ := opd_rel (v := .nil) hC (opd0_ok a hp) hr
  clear hr hs'
  split at hr1
  · rename_i ob off
    obtain ⟨_, hR⟩ := rel_leaf hS rfl (fun g => by simp)
    exact op_storeObj ho hs hp hx hd hC hR hr1 K
  · rename_i h g sz i off
    obtain ⟨_, hR⟩ := rel_leaf hS rfl (fun g => by simp)
    exact op_storeElem ho hs hx hd hC hR (fun r hr => hrf r (by simpa [V.refs, V.leaves, V.refs1] using hr)) hr1 K
  · cases hr1
end
end Go.Vq
namespace Go.Vq
section
variable {n : Nat} {E : Env} {slots : List V} {objs : List (Option Obj)} {vals : List Value} {H : Array Go.Obj}
theorem Core.addBlock (hC : Core n E slots objs vals H) (τ : Tag) (x : Go.Obj) : Core n (E.setTag H.size τ) slots objs vals (H.push x) := by
  have hbnd : ∀ b, E.tag b ≠ .other → b < H.size := by
    intro b hb
    rcases Nat.lt_or_ge b H.size with h | h
    · exact h
    · exact absurd (hC.fresh b h) hb
  have ht : ∀ b t, E.tag b = t → t ≠ .other → (E.setTag H.size τ).tag b = t ∧ (H.push x)[b]? = H[b]? := by
    intro b t hb hne
    have := hbnd b (by rw [hb]; exact hne)
    exact ⟨by rw [setTag_ne _ _ (by omega)]; exact hb, push_old this⟩
  have c1 : ∀ b i, E.imm b i → (E.setTag H.size τ).imm b i ∧ cellAt (H.push x) b i = cellAt H b i := by
    intro b i hi
    have hb : b < H.size := hbnd b (by intro h; simp [Env.imm, h] at hi)
    exact ⟨by simp only [Env.imm, setTag_ne _ _ (show b ≠ H.size by omega)]; exact hi, cellAt_push hb⟩
  have hk : HomesKept n E slots objs vals H (E.setTag H.size τ) slots objs vals (H.push x) := by
    intro h u _ hu _
    refine ⟨u, hu, Nat.le_refl _, .inl ⟨rfl, ?_⟩⟩
    cases h with
    | slot s i => rfl
    | obj o' i =>
      simp only [ct] at hu
      split at hu
      · rename_i cs' ho'
        obtain ⟨arr', T', f', h1, _⟩ := hC.obj o' cs' ho'
        exact cellAt_push (lt_of_getElem?' h1)
      · cases hu
  refine ⟨hC.len, hC.real, fun s u y hs hy => ⟨(hC.slot s u y hs hy).1, fun i w z hw hz => hC.leaf hk c1 rfl hs hy hw hz (fun _ b hb => ht b _ hb (by simp)) (fun _ b m hb => ht b _ hb (by simp))⟩, fun o cs ho => ?_, fun b hb => ?_, fun s u hs r hr => ?_⟩
  · exact hC.objKept c1 rfl ho (fun h => ht _ _ h (by simp)) (fun _ _ _ _ b hb => ht b _ hb (by simp)) (fun _ _ _ _ b m hb => ht b _ hb (by simp))
  · simp only [Array.size_push] at hb
    rw [setTag_ne _ _ (by omega)]; exact hC.fresh b (by omega)
  · have := hC.refs s u hs r hr
    exact ⟨this.1, hk.bound this⟩
end
section
variable {P : Program} {n base : Nat} {E E' : Env} {σ σ' : St} {hs : List V} {ts xs : List Value} {H H' : Array Go.Obj}
theorem CoreS.newBlock (hC : CoreS n E σ hs ts xs H) {sz cap : Nat} {es : List V} {arr : Array Value} {T : TypeId} {f : Nat × Nat} (hcap : es.length ≤ cap) (hfit : cap * sz ≤ arr.size) (hf : open_ f arr.size)
    (hE : Elems (E.setTag H.size (.home (.slot (n + hs.length) 0))).imm (H.push (.cells arr T f)) (some ⟨H.size, 0, none⟩) sz es) :
    CoreS n (E.setTag H.size (.home (.slot (n + hs.length) 0))) σ (hs ++ [.xsl 0 sz es]) ts (xs ++ [.slice (some ⟨H.size, 0, none⟩) es.length cap]) (H.push (.cells arr T f)) := by
  refine ⟨hC.sl, hC.tl, ?_⟩
  rw [← List.append_assoc, ← List.append_assoc]
  refine (hC.core.addBlock (.home (.slot (n + hs.length) 0)) (.cells arr T f)).push ⟨rfl, fun i u y hu hy => ?_⟩ (by intro r hr; simp [V.refs, V.leaves, V.refs1] at hr)
  have hN : (σ.slots ++ hs).length = n + hs.length := by simp [hC.sl]
  cases i with
  | zero =>
    simp only [V.leaves, List.getElem?_cons_zero, Option.some.injEq] at hu
    simp only [vleaves, List.getElem?_cons_zero, Option.some.injEq] at hy
    subst hu hy
    refine ⟨_, _, rfl, hcap, fun h => (by cases h), fun ad h _ => (by cases h; rfl), fun _ => ⟨_, arr, T, f, rfl, ?_, ?_, by simpa using hfit, hf⟩, hE⟩
    · rw [hN]; exact setTag_same _ _ _
    · simp
  | succ i => simp [V.leaves] at hu
theorem Grow.newBlock {τ : Tag} {x : Go.Obj} (hf : ∀ b, H.size ≤ b → E.tag b = .other) : Grow base E H (E.setTag H.size τ) (H.push x) := by
  have hbnd : ∀ b, E.tag b ≠ .other → b < H.size := by
    intro b hb
    rcases Nat.lt_or_ge b H.size with h | h
    · exact h
    · exact absurd (hf b h) hb
  refine ⟨by simp, fun b i hi => ?_, fun b hb ho => ⟨by rw [setTag_ne _ _ (by omega)]; exact ho, push_old hb⟩, fun b hi => ?_, fun b m hi => ?_, fun _ _ => rfl⟩
  · have hb : b < H.size := hbnd b (by intro h; simp [Env.imm, h] at hi)
    exact ⟨by simp only [Env.imm, setTag_ne _ _ (show b ≠ H.size by omega)]; exact hi, cellAt_push hb⟩
  · have hb := hbnd b (by rw [hi]; simp)
    exact ⟨by rw [setTag_ne _ _ (by omega)]; exact hi, push_old hb⟩
  · have hb := hbnd b (by rw [hi]; simp)
    exact ⟨by rw [setTag_ne _ _ (by omega)]; exact hi, push_old hb⟩
end
end Go.Vq
