/- A machine of values and its tie to the model, and runs of it: part 4 of 14 (no law of Go is stated here). -/
import Derived.Test.YtigbpkocmklbpaaF3
import Derived.Laws.BitsLemmas
import Derived.Laws.Tables
import Derived.Laws.Rows
set_option linter.unusedVariables false
set_option linter.unusedSimpArgs false
set_option linter.unusedSectionVars false
namespace Go.Vq
section
variable {n : Nat} {E : Env} {slots : List V} {objs : List (Option Obj)} {vals : List Value} {H : Array Go.Obj}
def intoObj (N o : Nat) : Home → Home
  | .slot s i => if s = N then .obj o i else .slot s i
  | h => h
def Env.addObj (E : Env) (N o b : Nat) : Env :=
  { tag := fun b' => if b' = b then .obj o else (E.retag (intoObj N o)).tag b', addr := fun o' => if o' = o then b else E.addr o' }
theorem lt_of_getElem?' {H : Array Go.Obj} {b : Nat} {x : Go.Obj} (h : H[b]? = some x) : b < H.size := by
  rcases Nat.lt_or_ge b H.size with h1 | h1
  · exact h1
  · rw [Array.getElem?_eq_none h1] at h; cases h
theorem push_old {H : Array Go.Obj} {x : Go.Obj} {b : Nat} (hb : b < H.size) : (H.push x)[b]? = H[b]? := by
  rw [Array.getElem?_push_lt hb, Array.getElem?_eq_getElem hb]
theorem cellAt_push {H : Array Go.Obj} {x : Go.Obj} {b i : Nat} (hb : b < H.size) : cellAt (H.push x) b i = cellAt H b i := by
  simp only [cellAt, push_old hb]
theorem obj1_rel {slots : List V} {objs : List (Option Obj)} {vals : List Value} {h : Home} {u : V} {y : Value} (hR : RelV E slots objs vals H h u y) : RelV E slots objs vals H h (obj1 u) y := by
  cases u <;> first | exact hR | skip
  have := relV_toVal hR rfl
  subst this
  exact ⟨none, 0, rfl, Nat.le_refl _, fun _ => rfl, fun _ h => (by cases h), fun h => absurd rfl h, Elems.nil _ _ _ _⟩
theorem Core.newObj {v : V} {x : Value} {cs : List V} {arr : Array Value} {T : TypeId} {f : Nat × Nat} {o : Nat} (hC : Core n E (slots ++ [v]) objs (vals ++ [x]) H) (hn : n ≤ slots.length)
    (ho : objs[o]? = some none) (hlen : cs.length = v.leaves.length) (hcs : ∀ (i : Nat) (u : V), v.leaves[i]? = some u → ∃ w, cs[i]? = some w ∧ regen1 (.gone 0) (obj1 u) = some w) (hin : ∀ u ∈ cs, u.inObj = true)
    (harr : arr.toList = vleaves x) (hsz : arr.size = cs.length) (hf : open_ f arr.size) :
    Core n (E.addObj slots.length o H.size) slots (objs.set o (some (.cells cs))) vals (H.push (.cells arr T f)) := by
  have hl : slots.length = vals.length := by have := hC.len; simpa using this
  have holt := lt_of_getElem? ho
  have hdead : ¬ alive objs o := by rintro ⟨y, hy⟩; rw [ho] at hy; cases hy
  have hvN : (slots ++ [v])[slots.length]? = some v := by simp
  have hxN : (vals ++ [x])[slots.length]? = some x := by rw [hl]; simp
  have hbnd : ∀ b, E.tag b ≠ .other → b < H.size := by
    intro b hb
    rcases Nat.lt_or_ge b H.size with h | h
    · exact h
    · exact absurd (hC.fresh b h) hb
  have htag : ∀ b, b < H.size → (E.addObj slots.length o H.size).tag b = (E.retag (intoObj slots.length o)).tag b := by
    intro b hb
    simp only [Env.addObj]; rw [if_neg (by omega)]
  have c1 : ∀ b i, E.imm b i → (E.addObj slots.length o H.size).imm b i ∧ cellAt (H.push (.cells arr T f)) b i = cellAt H b i := by
    intro b i hi
    have hb : b < H.size := hbnd b (by intro h; simp [Env.imm, h] at hi)
    refine ⟨?_, cellAt_push hb⟩
    have := (Env.retag_c1 E (intoObj slots.length o) H b i hi).1
    simp only [Env.imm, htag b hb]; exact this
  have c3 : ∀ o', alive objs o' → (E.addObj slots.length o H.size).addr o' = E.addr o' ∧ alive (objs.set o (some (.cells cs))) o' := by
    intro o' h
    have : o' ≠ o := by rintro rfl; exact hdead h
    exact ⟨by simp only [Env.addObj]; rw [if_neg this], alive_set h⟩
  have hhd : ∀ h u, (∀ t i, h = .slot t i → t < n) → ct (slots ++ [v]) objs h = some u → hd (E.addObj slots.length o H.size) vals (H.push (.cells arr T f)) h = hd E (vals ++ [x]) H h := by
    intro h u hs hu
    cases h with
    | slot s i =>
      have := hs s i rfl
      simp only [hd]; rw [List.getElem?_append_left (by omega)]
    | obj o' i =>
      simp only [ct] at hu
      split at hu
      · rename_i cs' ho'
        obtain ⟨arr', T', f', h1, _⟩ := hC.obj o' cs' ho'
        simp only [hd, (c3 o' ⟨_, ho'⟩).1]
        exact cellAt_push (lt_of_getElem?' h1)
      · cases hu
  have hct : ∀ h u, (∀ t i, h = .slot t i → t < n) → ct (slots ++ [v]) objs h = some u → ct slots (objs.set o (some (.cells cs))) h = some u := by
    intro h u hs hu
    cases h with
    | slot s i => rw [ct_append_left _ _ _ _ _ (by have := hs s i rfl; omega)] at hu; exact hu
    | obj o' i =>
      simp only [ct] at hu ⊢
      have : o' ≠ o := by rintro rfl; rw [ho] at hu; cases hu
      rw [List.getElem?_set_ne (fun e => this e.symm)]; exact hu
  have hk : HomesKept n E (slots ++ [v]) objs (vals ++ [x]) H (E.addObj slots.length o H.size) slots (objs.set o (some (.cells cs))) vals (H.push (.cells arr T f)) :=
    fun h u hs hu _ => ⟨u, hct h u hs hu, Nat.le_refl _, .inl ⟨rfl, hhd h u hs hu⟩⟩
  have hhome : ∀ b h, E.tag b = .home h → (E.addObj slots.length o H.size).tag b = .home (intoObj slots.length o h) ∧ (H.push (.cells arr T f))[b]? = H[b]? := by
    intro b h hb
    have hlt := hbnd b (by rw [hb]; simp)
    exact ⟨by rw [htag b hlt, Env.retag_home hb], push_old hlt⟩
  have htail : ∀ b m h, E.tag b = .tail h m → (E.addObj slots.length o H.size).tag b = .tail (intoObj slots.length o h) m ∧ (H.push (.cells arr T f))[b]? = H[b]? := by
    intro b m h hb
    have hlt := hbnd b (by rw [hb]; simp)
    exact ⟨by rw [htag b hlt, Env.retag_tail hb], push_old hlt⟩
  have hleaf : ∀ {s i : Nat} {v' u : V} {x' y : Value}, (slots ++ [v])[s]? = some v' → (vals ++ [x])[s]? = some x' → v'.leaves[i]? = some u → (vleaves x')[i]? = some y →
      RelV (E.addObj slots.length o H.size) slots (objs.set o (some (.cells cs))) vals (H.push (.cells arr T f)) (intoObj slots.length o (.slot s i)) u y := by
    intro s i v' u x' y h1 h2 h3 h4
    exact ((hC.slot s v' x' h1 h2).2 i u y h3 h4).move c1 (fun _ b hb => hhome b _ hb) (fun _ b m hb => htail b m _ hb) (fun o' _ h => c3 o' h) (fun o' _ _ _ h => c3 o' h) fun r hr sz hvl =>
      hk.c4 (hC.refs s v' h1 r (mem_refs h3 hr)) sz hvl
  refine ⟨hl, hn, fun s u y hs hy => ?_, fun o' cs' ho' => ?_, fun b hb => ?_, fun s u hs r hr => ?_⟩
  · have hs1 := lt_of_getElem? hs
    have hs' : (slots ++ [v])[s]? = some u := by rw [List.getElem?_append_left hs1]; exact hs
    have hy' : (vals ++ [x])[s]? = some y := by rw [List.getElem?_append_left (hl ▸ hs1)]; exact hy
    refine ⟨(hC.slot s u y hs' hy').1, fun i w z hw hz => ?_⟩
    have := hleaf hs' hy' hw hz
    simp only [intoObj] at this
    rw [if_neg (by omega)] at this
    exact this
  · by_cases hoo : o' = o
    · subst hoo
      rw [List.getElem?_set_self holt] at ho'
      cases ho'
      refine ⟨arr, T, f, ?_, ?_, hsz, hf, fun i u y hu hy => ?_, hin⟩
      · simp [Env.addObj]
      · simp [Env.addObj]
      · obtain ⟨u0, hu0⟩ := exists_getElem? (l := v.leaves) (i := i) (by have := lt_of_getElem? hu; omega)
        obtain ⟨w, w1, w2⟩ := hcs i u0 hu0
        rw [hu] at w1; cases w1
        have := hleaf hvN hxN hu0 (by rw [← harr]; simpa using hy)
        simp only [intoObj, if_true] at this
        exact regen1_rel w2 (obj1_rel this)
    · rw [List.getElem?_set_ne (fun e => hoo e.symm)] at ho'
      obtain ⟨arr', T', f', h1, h2, h3, h4, h5, h6⟩ := hC.obj o' cs' ho'
      have hlt := lt_of_getElem?' h1
      have e1 := (c3 o' ⟨_, ho'⟩).1
      refine ⟨arr', T', f', by rw [e1, push_old hlt]; exact h1, by rw [e1, htag _ hlt, Env.retag_obj h2], h3, h4, fun i u y hu hy => ?_, h6⟩
      refine (h5 i u y hu hy).move c1 (fun _ b hb => hhome b _ hb) (fun _ b m hb => htail b m _ hb) (fun o' _ h => c3 o' h) (fun o' _ _ _ h => c3 o' h) fun r hr => ?_
      rw [V.inObj_refs1 (h6 u (List.mem_of_getElem? hu))] at hr; cases hr
  · simp only [Array.size_push] at hb
    rw [show (E.addObj slots.length o H.size).tag b = (E.retag (intoObj slots.length o)).tag b by simp only [Env.addObj]; rw [if_neg (by omega)]]
    exact Env.retag_other (hC.fresh b (by omega))
  · have hs' : (slots ++ [v])[s]? = some u := by rw [List.getElem?_append_left (lt_of_getElem? hs)]; exact hs
    have := hC.refs s u hs' r hr
    exact ⟨this.1, hk.bound this⟩
end
section
variable {P : Program} {n base : Nat} {E E' : Env} {σ σ' : St} {hs : List V} {ts xs : List Value} {H H' : Array Go.Obj}
variable {callee : Callee} {o : Oper} {a : Act} {w : World} {next : Act → World → Prop} {Q : Exit → Act → World → Prop}
theorem CoreS.newObj {v : V} {x : Value} {cs : List V} {arr : Array Value} {T : TypeId} {f : Nat × Nat} {ob : Nat} (hC : CoreS n E σ (hs ++ [v]) ts (xs ++ [x]) H)
    (ho : σ.obj ob = none) (hlt : ob < σ.objs.length) (hlen : cs.length = v.leaves.length) (hcs : ∀ (i : Nat) (u : V), v.leaves[i]? = some u → ∃ w, cs[i]? = some w ∧ regen1 (.gone 0) (obj1 u) = some w) (hin : ∀ u ∈ cs, u.inObj = true)
    (harr : arr.toList = vleaves x) (hsz : arr.size = cs.length) (hf : open_ f arr.size) :
    CoreS n (E.addObj (n + hs.length) ob H.size) (σ.setO ob (some (.cells cs))) hs ts xs (H.push (.cells arr T f)) := by
  have h1 := hC.core
  rw [← List.append_assoc, ← List.append_assoc] at h1
  have ho' : σ.objs[ob]? = some none := by
    simp only [St.obj, List.getD, List.getElem?_eq_getElem hlt, Option.getD_some] at ho
    rw [List.getElem?_eq_getElem hlt, ho]
  have h2 := h1.newObj (by simp [hC.sl]) ho' hlen hcs hin harr hsz hf (T := T)
  rw [show (σ.slots ++ hs).length = n + hs.length from by simp [hC.sl]] at h2
  exact ⟨hC.sl, hC.tl, h2⟩
theorem Grow.addObj {N ob : Nat} {x : Go.Obj} (hf : ∀ b, H.size ≤ b → E.tag b = .other) (hb : base ≤ ob) : Grow base E H (E.addObj N ob H.size) (H.push x) := by
  have htag : ∀ b, b < H.size → (E.addObj N ob H.size).tag b = (E.retag (intoObj N ob)).tag b := by
    intro b hb
    simp only [Env.addObj]; rw [if_neg (by omega)]
  have hbnd : ∀ b, E.tag b ≠ .other → b < H.size := by
    intro b hb
    rcases Nat.lt_or_ge b H.size with h | h
    · exact h
    · exact absurd (hf b h) hb
  refine ⟨by simp, fun b i hi => ?_, fun b hb ho => ?_, fun b hi => ?_, fun b m hi => ?_, fun o ho => ?_⟩
  · have hb : b < H.size := hbnd b (by intro h; simp [Env.imm, h] at hi)
    refine ⟨?_, cellAt_push hb⟩
    have := (Env.retag_c1 E (intoObj N ob) H b i hi).1
    simp only [Env.imm, htag b hb]; exact this
  · exact ⟨by rw [htag b hb, Env.retag_other ho], push_old hb⟩
  · have hb : b < H.size := hbnd b (by rw [hi]; simp)
    exact ⟨by rw [htag b hb, Env.retag_immTag hi], push_old hb⟩
  · have hb : b < H.size := hbnd b (by rw [hi]; simp)
    exact ⟨by rw [htag b hb]; simp [Env.retag, hi], push_old hb⟩
  · simp only [Env.addObj]; rw [if_neg (by omega)]
theorem CoreS.pushNew {cs : List V} {arr : Array Value} {T : TypeId} {f : Nat × Nat} {ob N : Nat} (hC : CoreS n (E.addObj N ob H.size) (σ.setO ob (some (.cells cs))) hs ts xs (H.push (.cells arr T f))) (hlt : ob < σ.objs.length) :
    CoreS n (E.addObj N ob H.size) (σ.setO ob (some (.cells cs))) (hs ++ [.ptr (.obj ob 0)]) ts (xs ++ [.pointer (some ⟨H.size, 0, none⟩)]) (H.push (.cells arr T f)) := by
  refine hC.pushLeaf (h := .slot 0 0) rfl rfl ⟨by simp [Env.addObj], ?_⟩ (by intro r hr; cases hr)
  exact ⟨.cells cs, by simp only [St.setO]; rw [List.getElem?_set_self hlt]⟩
theorem open_00 (m : Nat) : open_ (0, 0) m := ⟨Nat.le_refl _, fun i _ h => by omega⟩
theorem valOf_plain {t : TypeId} {x : Value} {v : V} (h : valOf P t x = some v) : v.plain = true := by
  unfold valOf at h
  split at h
  · unfold nilOf at h
    simp only [Option.bind_eq_bind, Option.pure_def] at h
    obtain ⟨d, hd, h⟩ := Option.bind_eq_some_iff.1 h
    split at h
    · obtain ⟨z, hz, h⟩ := Option.bind_eq_some_iff.1 h
      cases h; rfl
    · cases h
  · unfold plainV at h
    split at h <;> first | (cases h; done) | (cases h; rfl)
theorem plain_obj1 {u : V} (h : u.plain = true) : regen1 (.gone 0) (obj1 u) = some (obj1 u) ∧ (obj1 u).inObj = true := by
  cases u <;> first | (simp [V.plain] at h; done) | exact ⟨rfl, rfl⟩
theorem op_alloc {t : TypeId} {s : Nat} {zs : List V} (ho : o.op = .alloc t) (hz : zeroOf P t = some zs) (hC : CoreS n E σ [] a.tmps.toList [] w.heap)
    (hr : (opProg callee base o.dst (.alloc s (zs.map obj1))).run σ = some σ') (K : NextOk n base E σ' a w next) : o.upon P a next Q ((execOp a.eval o).run P w) := by
  simp only [opProg, Prog.run] at hr
  split at hr
  · rename_i hob
    simp only [Prog.run] at hr
    split at hr
    · rename_i hlt
      unfold zeroOf at hz
      simp only [Option.bind_eq_bind] at hz
      obtain ⟨inf, hi, hz⟩ := Option.bind_eq_some_iff.1 hz
      obtain ⟨z, hz1, hz⟩ := Option.bind_eq_some_iff.1 hz
      obtain ⟨tys, _, hz⟩ := Option.bind_eq_some_iff.1 hz
      obtain ⟨h1, h2⟩ := valsOf_rel hz
      have hall : ∀ u ∈ zs, u.plain = true := by
        intro u hu
        obtain ⟨i, hi, rfl⟩ := List.getElem_of_mem hu
        obtain ⟨t', ht'⟩ := h2 i _ _ (List.getElem?_eq_getElem hi) (List.getElem?_eq_getElem (by omega))
        exact valOf_plain ht'
      have hcon := aggConst hz
      have hC1 := hC.push (v := .agg zs) (x := .agg z.cells) (fun u hu => hcon.2.2 u hu) (hcon.1 _ _ _ _ _ _) (by rw [hcon.2.1]; intro r hr; cases hr)
      have hC2 := hC1.newObj (T := t) (f := (0, 0)) (cs := zs.map obj1) (arr := z.cells) hob hlt (by simp [V.leaves]) (fun i u hu => ⟨obj1 u, by
          simp only [V.leaves] at hu; rw [List.getElem?_map, hu]; rfl, (plain_obj1 (hall u (List.mem_of_getElem? hu))).1⟩)
        (by intro u hu; obtain ⟨u0, hu0, rfl⟩ := List.mem_map.1 hu; exact (plain_obj1 (hall u0 hu0)).2) rfl (by simpa using h1.symm) (open_00 _)
      refine value_end (w1 := { w with heap := w.heap.push (.cells z.cells t (0, 0)) }) (hC2.pushNew hlt) (Grow.addObj hC.core.fresh (by omega)) ⟨rfl, rfl, rfl⟩ hr K ?_
      simp [execOp, ho, Instr.alloc, zeroValue, typeInfo, hi, hz1, newVar, newRow]
    · cases hr
  · cases hr
end
end Go.Vq
namespace Go.Vq
section
variable {P : Program} {n base : Nat} {E E' : Env} {σ σ' : St} {hs : List V} {ts xs : List Value} {H H' : Array Go.Obj}
variable {callee : Callee} {o : Oper} {a : Act} {w : World} {next : Act → World → Prop} {Q : Exit → Act → World → Prop}
theorem here_cells {slots : List V} {objs : List (Option Obj)} {vals : List Value} {s : Nat} {v : V} {x : Value} (hS : SlotRel E slots objs vals H s v x) (hv : v.here = true) :
    v.cells = v.leaves ∧ x.cells.toList = vleaves x ∧ x.cells.size = v.leaves.length := by
  by_cases hl : v.leaf = true
  · have hg : ∀ g, v ≠ .gone g := by rintro g rfl; cases hv
    obtain ⟨h1, _⟩ := rel_leaf hS hl hg
    refine ⟨by rw [cells_leaf hl, leaves_leaf hl], ?_, ?_⟩
    · rw [vleaves_leaf h1]; cases x <;> first | (simp [leafX] at h1; done) | rfl
    · rw [leaves_leaf hl]; cases x <;> first | (simp [leafX] at h1; done) | rfl
  · cases v <;> first | (exact absurd rfl hl) | skip
    · obtain ⟨⟨ys, rfl, h⟩, _⟩ := hS
      exact ⟨rfl, rfl, by simp [V.leaves, Value.cells, h]⟩
    · cases hv
theorem here_leafX {slots : List V} {objs : List (Option Obj)} {vals : List Value} {s : Nat} {v : V} {x : Value} (hS : SlotRel E slots objs vals H s v x) (hv : v.here = true) : ∀ z ∈ vleaves x, leafX z = true := by
  obtain ⟨e1, e2, e3⟩ := here_cells hS hv
  intro z hz
  obtain ⟨i, hi⟩ := List.mem_iff_getElem?.1 hz
  have hlt := lt_of_getElem? hi
  obtain ⟨u, hu⟩ := exists_getElem? (l := v.leaves) (i := i) (by rw [← e3, ← Array.length_toList, e2]; exact hlt)
  refine relV_leafX (hS.2 i u z hu hi) ?_
  rintro g rfl
  cases v <;> first | (simp [V.here] at hv; done) | (cases i <;> simp [V.leaves] at hu; done) | skip
  simp only [V.here, List.all_eq_true] at hv
  have := hv _ (List.mem_of_getElem? hu)
  simp at this
theorem op_box {t : TypeId} {s m : Nat} {x : Operand} {x' : Opd} (ho : o.op = .box t x) (hx : opd P t x = some x') (hC : CoreS n E σ [] a.tmps.toList [] w.heap)
    (hr : (opProg callee base o.dst (.box s m x')).run σ = some σ') (K : NextOk n base E σ' a w next) : o.upon P a next Q ((execOp a.eval o).run P w) := by
  obtain ⟨E1, σ1, v, hC1, hG1, _, hr, _⟩ := gMove_sound (base := base) _ hC (opd_ok a hx) hr
  simp only [Prog.run] at hr
  split at hr
  · rename_i hob
    split at hr
    · rename_i cs hcs
      rw [Prog.run_ite] at hr
      split at hr
      · rename_i hc
        obtain ⟨hin, hlen, hv⟩ := hc
        simp only [Prog.run] at hr
        split at hr
        · rename_i hlt
          obtain ⟨r1, r2, _⟩ := regens_some _ _ _ hcs
          obtain ⟨e1, e2, e3⟩ := here_cells (hand_rel hC1) hv
          have hC2 := hC1.newObj (T := t) (f := (0, 0)) (cs := cs) (arr := (a.eval x).cells) hob hlt (by rw [r1, List.length_map, e1]) (fun i u hu => by
              obtain ⟨w1, w2, w3⟩ := r2 i (obj1 u) (by rw [List.getElem?_map, e1, hu]; rfl)
              exact ⟨w1, w2, by simpa using w3⟩)
            (fun u hu => List.all_eq_true.1 hin u hu) e2 (by rw [e3, r1, List.length_map, e1]) (open_00 _)
          refine value_end (w1 := { w with heap := w.heap.push (.cells (a.eval x).cells t (0, 0)) }) (hC2.pushNew hlt) (hG1.trans (Grow.addObj hC1.core.fresh (by omega))) ⟨rfl, rfl, rfl⟩ hr K ?_
          simp [execOp, ho, Instr.box, newVar, newRow]
        · cases hr
      · cases hr
    · cases hr
  · cases hr
end
end Go.Vq
namespace Go.Vq
section
variable {P : Program}
def setsA (cur : Array Value) : Nat → List Value → Array Value
  | _, [] => cur
  | k, v :: r => setsA (cur.setIfInBounds k v) (k + 1) r
theorem setsA_size : ∀ (vs : List Value) (cur : Array Value) (k : Nat), (setsA cur k vs).size = cur.size
  | [], _, _ => rfl
  | v :: r, cur, k => by rw [setsA, setsA_size r]; simp
theorem setsA_get : ∀ (vs : List Value) (cur : Array Value) (k j : Nat), k + vs.length ≤ cur.size → (setsA cur k vs)[j]? = if k ≤ j ∧ j < k + vs.length then vs[j - k]? else cur[j]?
  | [], cur, k, j, h => by simp only [setsA, List.length_nil]; rw [if_neg (by omega)]
  | v :: r, cur, k, j, h => by
    simp only [List.length_cons] at h ⊢
    rw [setsA, setsA_get r _ (k + 1) j (by simp; omega)]
    by_cases h1 : k + 1 ≤ j ∧ j < k + 1 + r.length
    · rw [if_pos h1, if_pos (by omega)]
      rw [show j - k = (j - (k + 1)) + 1 by omega, List.getElem?_cons_succ]
    · rw [if_neg h1]
      by_cases h2 : j = k
      · subst h2
        rw [if_pos (by omega)]
        rw [Nat.sub_self, Array.getElem?_setIfInBounds_self_of_lt (by omega)]; rfl
      · rw [if_neg (by omega), Array.getElem?_setIfInBounds_ne (by omega)]
theorem storeCells_run {b off : Nat} {T : TypeId} {f : Nat × Nat} : ∀ (vs : List Value) (i : Nat) (cur : Array Value) (w : World), w.heap[b]? = some (.cells cur T f) → open_ f cur.size → off + i + vs.length ≤ cur.size → (∀ v ∈ vs, leafX v = true) →
    (storeCells ⟨b, off, none⟩ vs i).run P w = .ok () { w with heap := w.heap.setIfInBounds b (.cells (setsA cur (off + i) vs) T f) }
  | [], i, cur, w, hg, hf, hb, h1 => by
    have hlt := lt_of_getElem?' hg
    have : w.heap.setIfInBounds b (.cells cur T f) = w.heap := by
      apply Array.ext_getElem?
      intro j
      by_cases hj : b = j
      · subst hj; rw [Array.getElem?_setIfInBounds_self_of_lt hlt]; exact hg.symm
      · rw [Array.getElem?_setIfInBounds_ne hj]
    simp only [storeCells, setsA, this]; rfl
  | v :: r, i, cur, w, hg, hf, hb, h1 => by
    have hlt := lt_of_getElem?' hg
    simp only [List.length_cons] at hb
    have hadd : (⟨b, off, none⟩ : Addr).add i = ⟨b, off + i, none⟩ := by unfold Addr.add; split <;> simp_all
    have hone : v.oneCell' = true := by have := h1 v (by simp); cases v <;> first | rfl | (simp [leafX] at this)
    have hset : w.setCell ⟨b, off + i, none⟩ v = { w with heap := w.heap.setIfInBounds b (.cells (cur.setIfInBounds (off + i) v) T f) } := by
      simp only [World.setCell]
      congr 1
      apply Array.ext_getElem?
      intro j
      rw [Array.getElem?_modify]
      by_cases hj : b = j
      · subst hj
        rw [if_pos rfl, hg, Array.getElem?_setIfInBounds_self_of_lt hlt]; rfl
      · rw [if_neg hj, Array.getElem?_setIfInBounds_ne hj]
    have hst : (store ((⟨b, off, none⟩ : Addr).add i) v).run P w = .ok () { w with heap := w.heap.setIfInBounds b (.cells (cur.setIfInBounds (off + i) v) T f) } := by
      rw [hadd, run_store P w _ v _ hone]
      have hc : w.cell? ⟨b, off + i, none⟩ = some cur[off + i] := by simp [World.cell?, hg]
      have hz : w.frozen? ⟨b, off + i, none⟩ = false := by
        have := hf.2 (off + i) (by omega)
        simp only [World.frozen?, hg]
        simp only [Bool.and_eq_false_iff, decide_eq_false_iff_not]
        omega
      rw [hc]; simp only [hz, Bool.false_eq_true, if_false, hset]
    have ih := storeCells_run (b := b) (off := off) (T := T) (f := f) r (i + 1) (cur.setIfInBounds (off + i) v) { w with heap := w.heap.setIfInBounds b (.cells (cur.setIfInBounds (off + i) v) T f) }
      (by simp only; rw [Array.getElem?_setIfInBounds_self_of_lt hlt]) (by simpa using hf) (by simp; omega) (fun x hx => h1 x (by simp [hx]))
    simp only [storeCells, Sem.run_bind, hst, Result.andThen_ok, ih, setsA]
    congr 2
    apply Array.ext_getElem?
    intro j
    by_cases hj : b = j
    · subst hj
      rw [Array.getElem?_setIfInBounds_self_of_lt (by simpa using hlt), Array.getElem?_setIfInBounds_self_of_lt hlt, Nat.add_assoc]
    · rw [Array.getElem?_setIfInBounds_ne hj, Array.getElem?_setIfInBounds_ne hj, Array.getElem?_setIfInBounds_ne hj]
end
end Go.Vq
namespace Go.Vq
section
variable {n : Nat} {E : Env} {slots : List V} {objs : List (Option Obj)} {vals : List Value} {H : Array Go.Obj}
theorem splice_get {cs vs : List V} {off j : Nat} (h : off + vs.length ≤ cs.length) : (splice cs off vs)[j]? = if off ≤ j ∧ j < off + vs.length then vs[j - off]? else cs[j]? := by
  unfold splice
  rcases Nat.lt_or_ge j off with h1 | h1
  · rw [if_neg (by omega), List.append_assoc, List.getElem?_append_left (by simp; omega), List.getElem?_take_of_lt h1]
  · rcases Nat.lt_or_ge j (off + vs.length) with h2 | h2
    · rw [if_pos ⟨h1, h2⟩, List.append_assoc, List.getElem?_append_right (by simp; omega)]
      rw [List.length_take, Nat.min_eq_left (by omega), List.getElem?_append_left (by omega)]
    · rw [if_neg (by omega), List.getElem?_append_right (by simp; omega), List.getElem?_drop]
      congr 1
      simp; omega
theorem splice_len {cs vs : List V} {off : Nat} (h : off + vs.length ≤ cs.length) : (splice cs off vs).length = cs.length := by
  simp [splice]; omega
def intoCell (N o off : Nat) : Home → Home
  | .slot s i => if s = N then .obj o (off + i) else .slot s i
  | h => h
theorem regen1_inObj {o v w : V} (h : regen1 o v = some w) (hv : v.inObj = true) : w.inObj = true := by
  cases v <;> simp only [regen1] at h <;> first
    | (cases h; rfl)
    | (split at h <;> first | (cases h; exact hv) | (cases h; rfl) | (cases h; done))
theorem set_old {H : Array Go.Obj} {b b' : Nat} {x : Go.Obj} (h : b' ≠ b) : (H.setIfInBounds b x)[b']? = H[b']? := Array.getElem?_setIfInBounds_ne (fun e => h e.symm)
theorem Core.intoCells {v : V} {x : Value} {cs ns : List V} {arr : Array Value} {T : TypeId} {f : Nat × Nat} {o off : Nat} (hC : Core n E (slots ++ [v]) objs (vals ++ [x]) H) (hn : n ≤ slots.length)
    (ho : objs[o]? = some (some (.cells cs))) (hle : off + v.leaves.length ≤ cs.length) (hns : regens ((cs.drop off).take v.leaves.length) (v.leaves.map obj1) = some ns) (hin : ∀ u ∈ ns, u.inObj = true)
    (hH : H[E.addr o]? = some (.cells arr T f)) (hx : (vleaves x).length = v.leaves.length) :
    Core n (E.retag (intoCell slots.length o off)) slots (objs.set o (some (.cells (splice cs off ns)))) vals (H.setIfInBounds (E.addr o) (.cells (setsA arr off (vleaves x)) T f)) := by
  have hl : slots.length = vals.length := by have := hC.len; simpa using this
  have holt := lt_of_getElem? ho
  have hHlt := lt_of_getElem?' hH
  have hvN : (slots ++ [v])[slots.length]? = some v := by simp
  have hxN : (vals ++ [x])[slots.length]? = some x := by rw [hl]; simp
  obtain ⟨r1, r2, r3⟩ := regens_some _ _ _ hns
  rw [List.length_map] at r1
  obtain ⟨arr0, T0, f0, h1, htag, hsz, hop, hcells, hino⟩ := hC.obj o cs ho
  rw [hH] at h1; cases h1
  have hsl : off + ns.length ≤ cs.length := by omega
  have hne : ∀ b, E.tag b ≠ .obj o → b ≠ E.addr o := by rintro b hb rfl; exact hb htag
  have c1 : ∀ b i, E.imm b i → (E.retag (intoCell slots.length o off)).imm b i ∧ cellAt (H.setIfInBounds (E.addr o) (.cells (setsA arr off (vleaves x)) T f)) b i = cellAt H b i := by
    intro b i hi
    have hb := hne b (by intro h; simp [Env.imm, h] at hi)
    exact ⟨(Env.retag_c1 E _ H b i hi).1, by simp only [cellAt, set_old hb]⟩
  have cal : ∀ o', alive objs o' → alive (objs.set o (some (.cells (splice cs off ns)))) o' := fun o' h => alive_set h
  have hhome : ∀ b h, E.tag b = .home h → (E.retag (intoCell slots.length o off)).tag b = .home (intoCell slots.length o off h) ∧ (H.setIfInBounds (E.addr o) (.cells (setsA arr off (vleaves x)) T f))[b]? = H[b]? :=
    fun b h hb => ⟨Env.retag_home hb, set_old (hne b (by rw [hb]; simp))⟩
  have htail : ∀ b m h, E.tag b = .tail h m → (E.retag (intoCell slots.length o off)).tag b = .tail (intoCell slots.length o off h) m ∧ (H.setIfInBounds (E.addr o) (.cells (setsA arr off (vleaves x)) T f))[b]? = H[b]? :=
    fun b m h hb => ⟨Env.retag_tail hb, set_old (hne b (by rw [hb]; simp))⟩
  have hget : ∀ j, (setsA arr off (vleaves x))[j]? = if off ≤ j ∧ j < off + v.leaves.length then (vleaves x)[j - off]? else arr[j]? := by
    intro j; rw [setsA_get _ _ _ _ (by omega), hx]
  have hold : ∀ i, off ≤ i → i < off + v.leaves.length → ((cs.drop off).take v.leaves.length).getD (i - off) (.gone 0) = cs.getD i (.gone 0) := by
    intro i h1 h2
    rw [List.getD, List.getD, List.getElem?_take_of_lt (by omega), List.getElem?_drop, show off + (i - off) = i by omega]
  have hk : HomesKept n E (slots ++ [v]) objs (vals ++ [x]) H (E.retag (intoCell slots.length o off)) slots (objs.set o (some (.cells (splice cs off ns)))) vals (H.setIfInBounds (E.addr o) (.cells (setsA arr off (vleaves x)) T f)) := by
    intro h u hs hu hp
    cases h with
    | slot s i =>
      have := hs s i rfl
      rw [ct_append_left _ _ _ _ _ (by omega)] at hu
      exact ⟨u, hu, Nat.le_refl _, .inl ⟨rfl, by simp only [hd]; rw [List.getElem?_append_left (by omega)]⟩⟩
    | obj o' i =>
      by_cases hoo : o' = o
      · subst hoo
        simp only [ct, ho] at hu
        have e1 : ct slots (objs.set o' (some (.cells (splice cs off ns)))) (.obj o' i) = (splice cs off ns)[i]? := by simp only [ct, List.getElem?_set_self holt]
        rw [splice_get hsl, r1] at e1
        by_cases hi : off ≤ i ∧ i < off + v.leaves.length
        · rw [if_pos hi] at e1
          obtain ⟨u0, hu0⟩ := exists_getElem? (l := v.leaves.map obj1) (i := i - off) (by simp; omega)
          obtain ⟨w, w1, w2⟩ := r2 _ u0 hu0
          rw [hold i hi.1 hi.2, getD_of_getElem? hu] at w2
          have := regen1_next w2 hp
          exact ⟨w, by rw [e1]; exact w1, this.1, .inr this.2⟩
        · rw [if_neg hi] at e1
          refine ⟨u, by rw [e1]; exact hu, Nat.le_refl _, .inl ⟨rfl, ?_⟩⟩
          simp only [hd, Env.retag, cellAt, Array.getElem?_setIfInBounds_self_of_lt hHlt, hH]
          rw [hget i, if_neg hi]
      · simp only [ct] at hu
        split at hu
        · rename_i cs' ho'
          obtain ⟨arr', T', f', g1, g2, _⟩ := hC.obj o' cs' ho'
          refine ⟨u, by simp only [ct, List.getElem?_set_ne (fun e => hoo e.symm), ho']; exact hu, Nat.le_refl _, .inl ⟨rfl, ?_⟩⟩
          have hb := hne (E.addr o') (by rw [g2]; intro e; cases e; exact hoo rfl)
          simp only [hd, Env.retag, cellAt, set_old hb]
        · cases hu
  have hleaf : ∀ {s i : Nat} {v' u : V} {x' y : Value}, (slots ++ [v])[s]? = some v' → (vals ++ [x])[s]? = some x' → v'.leaves[i]? = some u → (vleaves x')[i]? = some y →
      RelV (E.retag (intoCell slots.length o off)) slots (objs.set o (some (.cells (splice cs off ns)))) vals (H.setIfInBounds (E.addr o) (.cells (setsA arr off (vleaves x)) T f)) (intoCell slots.length o off (.slot s i)) u y := by
    intro s i v' u x' y h1 h2 h3 h4
    exact ((hC.slot s v' x' h1 h2).2 i u y h3 h4).move c1 (fun _ b hb => hhome b _ hb) (fun _ b m hb => htail b m _ hb) (fun o' _ h => ⟨rfl, cal o' h⟩) (fun o' _ _ _ h => ⟨rfl, cal o' h⟩) fun r hr sz hvl =>
      hk.c4 (hC.refs s v' h1 r (mem_refs h3 hr)) sz hvl
  have hcell : ∀ {o' i : Nat} {u : V} {y : Value}, RelV E (slots ++ [v]) objs (vals ++ [x]) H (.obj o' i) u y → u.inObj = true →
      RelV (E.retag (intoCell slots.length o off)) slots (objs.set o (some (.cells (splice cs off ns)))) vals (H.setIfInBounds (E.addr o) (.cells (setsA arr off (vleaves x)) T f)) (.obj o' i) u y := by
    intro o' i u y hR hio
    refine hR.move c1 (fun _ b hb => hhome b _ hb) (fun _ b m hb => htail b m _ hb) (fun o' _ h => ⟨rfl, cal o' h⟩) (fun o' _ _ _ h => ⟨rfl, cal o' h⟩) fun r hr => ?_
    rw [V.inObj_refs1 hio] at hr; cases hr
  refine ⟨hl, hn, fun s u y hs hy => ?_, fun o' cs' ho' => ?_, fun b hb => ?_, fun s u hs r hr => ?_⟩
  · have hs1 := lt_of_getElem? hs
    have hs' : (slots ++ [v])[s]? = some u := by rw [List.getElem?_append_left hs1]; exact hs
    have hy' : (vals ++ [x])[s]? = some y := by rw [List.getElem?_append_left (hl ▸ hs1)]; exact hy
    refine ⟨(hC.slot s u y hs' hy').1, fun i w z hw hz => ?_⟩
    have := hleaf hs' hy' hw hz
    simp only [intoCell] at this
    rw [if_neg (by omega)] at this
    exact this
  · by_cases hoo : o' = o
    · subst hoo
      rw [List.getElem?_set_self holt] at ho'
      cases ho'
      refine ⟨setsA arr off (vleaves x), T, f, ?_, Env.retag_obj htag, by rw [setsA_size, hsz, splice_len hsl], by rw [setsA_size]; exact hop, fun i u y hu hy => ?_, fun u hu => ?_⟩
      · exact Array.getElem?_setIfInBounds_self_of_lt hHlt
      · rw [splice_get hsl, r1] at hu
        rw [hget i] at hy
        by_cases hi : off ≤ i ∧ i < off + v.leaves.length
        · rw [if_pos hi] at hu hy
          obtain ⟨u0, hu0⟩ := exists_getElem? (l := v.leaves) (i := i - off) (by omega)
          obtain ⟨w, w1, w2⟩ := r2 (i - off) (obj1 u0) (by rw [List.getElem?_map, hu0]; rfl)
          rw [hu] at w1; cases w1
          have := hleaf hvN hxN hu0 hy
          simp only [intoCell, if_true] at this
          rw [show off + (i - off) = i by omega] at this
          exact regen1_rel w2 (obj1_rel this)
        · rw [if_neg hi] at hu hy
          exact hcell (hcells i u y hu hy) (hino u (List.mem_of_getElem? hu))
      · obtain ⟨i, hi⟩ := List.mem_iff_getElem?.1 hu
        rw [splice_get hsl] at hi
        split at hi
        · exact hin u (List.mem_of_getElem? hi)
        · exact hino u (List.mem_of_getElem? hi)
    · rw [List.getElem?_set_ne (fun e => hoo e.symm)] at ho'
      obtain ⟨arr', T', f', g1, g2, g3, g4, g5, g6⟩ := hC.obj o' cs' ho'
      have hb := hne (E.addr o') (by rw [g2]; intro e; cases e; exact hoo rfl)
      exact ⟨arr', T', f', (set_old hb).trans g1, Env.retag_obj g2, g3, g4, fun i u y hu hy => hcell (g5 i u y hu hy) (g6 u (List.mem_of_getElem? hu)), g6⟩
  · exact Env.retag_other (hC.fresh b (by simpa using hb))
  · have hs' : (slots ++ [v])[s]? = some u := by rw [List.getElem?_append_left (lt_of_getElem? hs)]; exact hs
    have := hC.refs s u hs' r hr
    exact ⟨this.1, hk.bound this⟩
end
end Go.Vq
namespace Go.Vq
section
variable {P : Program} {n base : Nat} {E E' : Env} {σ σ' : St} {hs : List V} {ts xs : List Value} {H H' : Array Go.Obj}
variable {callee : Callee} {o : Oper} {a : Act} {w : World} {next : Act → World → Prop} {Q : Exit → Act → World → Prop}
theorem CoreS.intoCells {v : V} {x : Value} {cs ns : List V} {arr : Array Value} {T : TypeId} {f : Nat × Nat} {ob off : Nat} (hC : CoreS n E σ (hs ++ [v]) ts (xs ++ [x]) H)
    (ho : σ.obj ob = some (.cells cs)) (hle : off + v.leaves.length ≤ cs.length) (hns : regens ((cs.drop off).take v.leaves.length) (v.leaves.map obj1) = some ns) (hin : ∀ u ∈ ns, u.inObj = true)
    (hH : H[E.addr ob]? = some (.cells arr T f)) (hx : (vleaves x).length = v.leaves.length) :
    CoreS n (E.retag (intoCell (n + hs.length) ob off)) (σ.setO ob (some (.cells (splice cs off ns)))) hs ts xs (H.setIfInBounds (E.addr ob) (.cells (setsA arr off (vleaves x)) T f)) := by
  have h1 := hC.core
  rw [← List.append_assoc, ← List.append_assoc] at h1
  have ho' : σ.objs[ob]? = some (some (.cells cs)) := by
    simp only [St.obj, List.getD] at ho
    cases h : σ.objs[ob]? with
    | none => simp [h] at ho
    | some y => simp [h] at ho; rw [ho]
  have h2 := h1.intoCells (by simp [hC.sl]) ho' hle hns hin hH hx
  rw [show (σ.slots ++ hs).length = n + hs.length from by simp [hC.sl]] at h2
  exact ⟨hC.sl, hC.tl, h2⟩
theorem Grow.intoCells {N ob off : Nat} {x : Go.Obj} (ht : E.tag (E.addr ob) = .obj ob) : Grow base E H (E.retag (intoCell N ob off)) (H.setIfInBounds (E.addr ob) x) := by
  have hne : ∀ b, E.tag b ≠ .obj ob → b ≠ E.addr ob := by rintro b hb rfl; exact hb ht
  refine ⟨by simp, fun b i hi => ?_, fun b hb ho => ⟨Env.retag_other ho, set_old (hne b (by rw [ho]; simp))⟩, fun b hi => ⟨Env.retag_immTag hi, set_old (hne b (by rw [hi]; simp))⟩, fun b m hi => ⟨by simp [Env.retag, hi], set_old (hne b (by rw [hi]; simp))⟩, fun o ho => rfl⟩
  have hb := hne b (by intro h; simp [Env.imm, h] at hi)
  exact ⟨(Env.retag_c1 E _ H b i hi).1, by simp only [cellAt, set_old hb]⟩
theorem op_storeObj {t : TypeId} {p x : Operand} {p' x' : Opd} {m : Nat} (ho : o.op = .store t p x) (hs : szOf P t = some m) (hp : opd0 p = some p') (hx : opd P t x = some x') (hd : o.dst = none)
    {ob off : Nat} (hC : CoreS n E σ [] a.tmps.toList [] w.heap)
    (hpv : RelV E (σ.slots ++ []) σ.objs (a.tmps.toList ++ []) w.heap (.slot 0 0) (.ptr (.obj ob off)) (a.eval p))
    (hr : (gMove (fun i => some (.obj ob (off + i))) x' fun v => if v.cells.length = m ∧ (v.cells.map obj1).all V.inObj ∧ v.here = true then sCells (.obj ob off) (v.cells.map obj1) .ret else .fail).run σ = some σ') (K : NextOk n base E σ' a w next) : o.upon P a next Q ((execOp a.eval o).run P w) := by
  obtain ⟨hpe, _⟩ := hpv
  obtain ⟨E1, σ1, v, hC1, hG1, ha1, hr, _⟩ := gMove_sound (base := base) _ hC (opd_ok a hx) hr
  rw [Prog.run_ite] at hr
  split at hr
  · rename_i hc
    obtain ⟨hlen, hin, hv⟩ := hc
    simp only [sCells, Prog.run] at hr
    split at hr
    · rename_i cs hob
      rw [Prog.run_ite] at hr
      split at hr
      · rename_i hle
        split at hr
        · rename_i ns hns
          simp only [Prog.run] at hr
          split at hr
          · obtain ⟨e1, e2, e3⟩ := here_cells (hand_rel hC1) hv
            obtain ⟨arr, T, f, g1, g2, g3, g4, g5, g6⟩ := hC1.objAt hob
            rw [List.length_map] at hle hns
            rw [e1] at hle hns hin hlen
            obtain ⟨r1, r2, _⟩ := regens_some _ _ _ hns
            have hvl : (vleaves (a.eval x)).length = v.leaves.length := by rw [← e2, ← e3]; simp
            have hC2 := hC1.intoCells hob hle hns (fun u hu => by
              obtain ⟨i, hi⟩ := List.mem_iff_getElem?.1 hu
              obtain ⟨z, hz⟩ := exists_getElem? (l := v.leaves.map obj1) (i := i) (by have := lt_of_getElem? hi; omega)
              obtain ⟨w1, w2, w3⟩ := r2 i z hz
              rw [hi] at w2; cases w2
              exact regen1_inObj w3 (List.all_eq_true.1 hin z (List.mem_of_getElem? hz))) g1 hvl
            have hrun : (execOp a.eval o).run P w = .ok .skip { w with heap := w.heap.setIfInBounds (E1.addr ob) (.cells (setsA arr off (vleaves (a.eval x))) T f) } := by
              have hone : ∀ z ∈ vleaves (a.eval x), leafX z = true := here_leafX (hand_rel hC1) hv
              have hst := storeCells_run (P := P) (b := E1.addr ob) (off := off) (T := T) (f := f) (vleaves (a.eval x)) 0 arr w g1 g4 (by rw [hvl, g3]; omega) hone
              have hsz : (a.eval x).cells.size = m := by rw [e3]; exact hlen
              rw [← ha1] at hpe
              simp only [execOp, ho, hpe, Instr.storeAt, Instr.sureAddr, storeVar, Sem.run_bind, Sem.run_pure, Result.andThen_ok, run_size hs, hsz]
              simp only [ne_eq, not_true_eq_false, if_false, e2, hst, Sem.run_bind, Sem.run_pure, Result.andThen_ok, Nat.add_zero]
            rw [hrun, Oper.upon_skip]
            have hput : a.put o.dst undef = a := by rw [hd]; rfl
            rw [hput]
            cases hr
            exact K _ _ { w with heap := w.heap.setIfInBounds (E1.addr ob) (.cells (setsA arr off (vleaves (a.eval x))) T f) } hC2 (hG1.trans (Grow.intoCells g2)) ⟨rfl, rfl, rfl⟩ rfl
          · cases hr
        · cases hr
      · cases hr
    · cases hr
  · cases hr
end
end Go.Vq
namespace Go.Vq
section
variable {n : Nat} {E E' : Env} {slots slots' : List V} {objs objs' : List (Option Obj)} {vals vals' : List Value} {H H' : Array Go.Obj}
theorem Core.turnM (hC : Core n E slots objs vals H) {h : Home} {u u' : V} (hu : ct slots objs h = some u) (hg : ∀ g, u ≠ .gone g)
    (hin : u'.leaf = true ∧ u'.refs1 = [] ∧ (∀ o off, h = .obj o off → u'.inObj = true))
    (hng : (∀ t i, h = .slot t i → t < n) → u.nextg ≤ u'.nextg ∧ (u'.gen? = u.gen? ∨ ∀ g sz, u'.gen? = some (g, sz) → u.nextg ≤ g))
    (ca : E'.addr = E.addr) (c1 : ∀ b i, E.imm b i → E'.imm b i ∧ cellAt H' b i = cellAt H b i) (c2 : ∀ h' w, h' ≠ h → ct slots objs h' = some w → w.own = true → ∀ b, E.tag b = .home h' → E'.tag b = .home h' ∧ H'[b]? = H[b]?) (c2' : ∀ h' w, h' ≠ h → ct slots objs h' = some w → w.own = true → ∀ b m, E.tag b = .tail h' m → E'.tag b = .tail h' m ∧ H'[b]? = H[b]?)
    (c0 : ∀ b o, E.tag b = .obj o → E'.tag b = .obj o ∧ H'[b]? = H[b]?) (cf : ∀ b, H'.size ≤ b → E'.tag b = .other)
    (hrel : ∀ y, hd E vals H h = some y → RelV E slots objs vals H h u y → RelV E' (setSlots slots h u') (setObjs' objs h u') vals H' h u' y) :
    Core n E' (setSlots slots h u') (setObjs' objs h u') vals H' := by
  have c1' := c1
  have hdE : ∀ h' w, ct slots objs h' = some w → hd E' vals H' h' = hd E vals H h' := by
    intro h' w hw
    cases h' with
    | slot s i => rfl
    | obj o i =>
      simp only [ct] at hw
      split at hw
      · rename_i cs ho
        obtain ⟨arr, T, f, h1, h2, _⟩ := hC.obj o cs ho
        simp only [hd, ca, cellAt, (c0 _ _ h2).2]
      · cases hw
  cases h with
  | slot s off =>
    have hs : s < slots.length := by
      rcases Nat.lt_or_ge s slots.length with hs | hs
      · exact hs
      · exact absurd (ct_slot_big hs hu) (hg 0)
    obtain ⟨v, hv⟩ := exists_getElem? hs
    obtain ⟨x, hx⟩ := exists_getElem? (l := vals) (i := s) (hC.len ▸ hs)
    have hS := hC.slot s v x hv hx
    have e0 : slots.getD s (.gone 0) = v := getD_of_getElem? hv
    simp only [setSlots, setObjs', e0] at hrel ⊢
    rw [ct_getElem? hv] at hu
    have hoff := lt_of_getElem? hu
    have hlf : ∀ w ∈ v.leaves.set off u', w.leaf = true := by
      intro w hw
      rcases List.mem_or_eq_of_mem_set hw with h1 | h1
      · exact hS.leafs w h1
      · subst h1; exact hin.1
    have hvg : ∀ g, v ≠ .gone g := by
      rintro g rfl
      simp at hoff; subst hoff; simp at hu; exact hg g hu.symm
    have hwl : (v.withLeaves (v.leaves.set off u')).leaves = v.leaves.set off u' := withLeaves_leaves hS.formed (by simp) hlf
    have hk : HomesKept n E slots objs vals H E' (slots.set s (v.withLeaves (v.leaves.set off u'))) objs vals H' := by
      intro h w hh hw hp
      have hd0 := hdE _ _ hw
      cases h with
      | slot s' i =>
        have e1 := ct_set slots objs s (v.withLeaves (v.leaves.set off u')) s' i hs
        by_cases hss : s' = s
        · subst hss
          rw [if_pos rfl, hwl] at e1
          rw [ct_getElem? hv] at hw
          by_cases hi : i = off
          · subst hi
            rw [hu] at hw; cases hw
            have := hng (fun t j e => by cases e; exact hh _ _ rfl)
            refine ⟨u', by rw [e1, List.getElem?_set_self hoff], this.1, ?_⟩
            rcases this.2 with h2 | h2
            · exact .inl ⟨h2, hd0⟩
            · exact .inr h2
          · exact ⟨w, by rw [e1, List.getElem?_set_ne (fun e => hi e.symm)]; exact hw, Nat.le_refl _, .inl ⟨rfl, hd0⟩⟩
        · rw [if_neg hss] at e1
          exact ⟨w, by rw [e1]; exact hw, Nat.le_refl _, .inl ⟨rfl, hd0⟩⟩
      | obj o i => exact ⟨w, hw, Nat.le_refl _, .inl ⟨rfl, hd0⟩⟩
    refine ⟨by simp [hC.len], by simpa using hC.real, fun s' w y hs' hy => ?_, fun o cs ho => ?_, cf, fun s' w hs' r hr => ?_⟩
    · by_cases hss : s' = s
      · subst hss
        rw [List.getElem?_set_self hs] at hs'; cases hs'
        rw [hx] at hy; cases hy
        refine ⟨withLeaves_shape hS.formed (by simp) hlf hS.1 hvg, fun i w z hw hz => ?_⟩
        rw [hwl] at hw
        by_cases hi : i = off
        · subst hi
          rw [List.getElem?_set_self hoff] at hw; cases hw
          exact hrel z (by simp only [hd, hx, Option.bind_some]; exact hz) (hS.2 _ u z hu hz)
        · rw [List.getElem?_set_ne (fun e => hi e.symm)] at hw
          exact hC.leaf hk c1' ca hv hx hw hz (fun ho b hb => c2 (.slot s' i) w (by simp [hi]) (by rw [ct_getElem? hv]; exact hw) ho b hb) (fun ho b m hb => c2' (.slot s' i) w (by simp [hi]) (by rw [ct_getElem? hv]; exact hw) ho b m hb)
      · rw [List.getElem?_set_ne (fun e => hss e.symm)] at hs'
        exact ⟨(hC.slot s' w y hs' hy).1, fun i w' z hw hz => hC.leaf hk c1' ca hs' hy hw hz (fun ho b hb => c2 (.slot s' i) w' (by simp [hss]) (by rw [ct_getElem? hs']; exact hw) ho b hb) (fun ho b m hb => c2' (.slot s' i) w' (by simp [hss]) (by rw [ct_getElem? hs']; exact hw) ho b m hb)⟩
    · exact hC.objKept c1' ca ho (fun h => c0 _ _ h) (fun i u hi ho' b hb => c2 (.obj o i) u (by simp) (by simp only [ct, ho]; exact hi) ho' b hb) (fun i u hi ho' b m hb => c2' (.obj o i) u (by simp) (by simp only [ct, ho]; exact hi) ho' b m hb)
    · by_cases hss : s' = s
      · subst hss
        rw [List.getElem?_set_self hs] at hs'; cases hs'
        rw [refs_of_leaves hwl] at hr
        have := hC.refs _ v hv r (mem_set_refs hin.2.1 hr)
        exact ⟨this.1, hk.bound this⟩
      · rw [List.getElem?_set_ne (fun e => hss e.symm)] at hs'
        have := hC.refs s' w hs' r hr
        exact ⟨this.1, hk.bound this⟩
  | obj o off =>
    simp only [ct] at hu
    split at hu
    · rename_i cs ho
      have e0 : objs.getD o none = some (.cells cs) := getD_of_getElem? ho
      have hol := lt_of_getElem? ho
      simp only [setSlots, setObjs', e0] at hrel ⊢
      have hoff := lt_of_getElem? hu
      obtain ⟨arr, T, f, h1, h2, h3, h4, h5, h6⟩ := hC.obj o cs ho
      have hk : HomesKept n E slots objs vals H E' slots (objs.set o (some (.cells (cs.set off u')))) vals H' := by
        intro h w hh hw hp
        have hd0 := hdE _ _ hw
        cases h with
        | slot s' i => exact ⟨w, hw, Nat.le_refl _, .inl ⟨rfl, hd0⟩⟩
        | obj o' i =>
          by_cases hoo : o' = o
          · subst hoo
            simp only [ct, ho] at hw
            simp only [ct, List.getElem?_set_self hol]
            by_cases hi : i = off
            · subst hi
              rw [hu] at hw; cases hw
              have := hng (fun t j e => by cases e)
              refine ⟨u', by rw [List.getElem?_set_self hoff], this.1, ?_⟩
              rcases this.2 with h2 | h2
              · exact .inl ⟨h2, hd0⟩
              · exact .inr h2
            · exact ⟨w, by rw [List.getElem?_set_ne (fun e => hi e.symm)]; exact hw, Nat.le_refl _, .inl ⟨rfl, hd0⟩⟩
          · simp only [ct] at hw
            refine ⟨w, ?_, Nat.le_refl _, .inl ⟨rfl, hd0⟩⟩
            simp only [ct, List.getElem?_set_ne (fun e => hoo e.symm)]
            exact hw
      refine ⟨hC.len, hC.real, fun s' w y hs' hy => ?_, fun o' cs' ho' => ?_, cf, fun s' w hs' r hr => ?_⟩
      · exact ⟨(hC.slot s' w y hs' hy).1, fun i w' z hw hz => hC.leaf hk c1' ca hs' hy hw hz (fun ho b hb => c2 (.slot s' i) w' (by simp) (by rw [ct_getElem? hs']; exact hw) ho b hb) (fun ho b m hb => c2' (.slot s' i) w' (by simp) (by rw [ct_getElem? hs']; exact hw) ho b m hb)⟩
      · by_cases hoo : o' = o
        · subst hoo
          rw [List.getElem?_set_self hol] at ho'; cases ho'
          refine ⟨arr, T, f, by rw [ca]; exact (c0 _ _ h2).2.trans h1, by rw [ca]; exact (c0 _ _ h2).1, by simpa using h3, h4, fun i w z hw hz => ?_, fun w hw => ?_⟩
          · by_cases hi : i = off
            · subst hi
              rw [List.getElem?_set_self hoff] at hw; cases hw
              exact hrel z (by simp only [hd, cellAt, h1]; exact hz) (h5 _ u z hu hz)
            · rw [List.getElem?_set_ne (fun e => hi e.symm)] at hw
              refine (h5 i w z hw hz).move c1' (fun ho' b hb => c2 (.obj o' i) w (by simp [hi]) (by simp only [ct, ho]; exact hw) ho' b hb) (fun ho' b m hb => c2' (.obj o' i) w (by simp [hi]) (by simp only [ct, ho]; exact hw) ho' b m hb) (fun _ _ h => ⟨by rw [ca], alive_set h⟩) (fun _ _ _ _ h => ⟨by rw [ca], alive_set h⟩) fun r hr => ?_
              rw [V.inObj_refs1 (h6 w (List.mem_of_getElem? hw))] at hr; cases hr
          · rcases List.mem_or_eq_of_mem_set hw with h1 | h1
            · exact h6 w h1
            · subst h1; exact hin.2.2 _ _ rfl
        · rw [List.getElem?_set_ne (fun e => hoo e.symm)] at ho'
          exact hC.objKept c1' ca ho' (fun h => c0 _ _ h) (fun i u hi ho2 b hb => c2 (.obj o' i) u (by simp [hoo]) (by simp only [ct, ho']; exact hi) ho2 b hb) (fun i u hi ho2 b m hb => c2' (.obj o' i) u (by simp [hoo]) (by simp only [ct, ho']; exact hi) ho2 b m hb)
      · have := hC.refs s' w hs' r hr
        exact ⟨this.1, hk.bound this⟩
    · cases hu
end
end Go.Vq
namespace Go.Vq
section
variable {P : Program} {n base : Nat} {E E' : Env} {σ σ' : St} {hs : List V} {ts xs : List Value} {H H' : Array Go.Obj}
theorem CoreS.turnHomeM (hC : CoreS n E σ hs ts xs H) {h : Home} {u u' : V} (hu : ct σ.slots σ.objs h = some u) (hg : ∀ g, u ≠ .gone g)
    (hin : u'.leaf = true ∧ u'.refs1 = [] ∧ (∀ o off, h = .obj o off → u'.inObj = true))
    (hng : u.nextg ≤ u'.nextg ∧ (u'.gen? = u.gen? ∨ ∀ g sz, u'.gen? = some (g, sz) → u.nextg ≤ g))
    (ca : E'.addr = E.addr) (c1 : ∀ b i, E.imm b i → E'.imm b i ∧ cellAt H' b i = cellAt H b i) (c2 : ∀ h' w, h' ≠ h → ct (σ.slots ++ hs) σ.objs h' = some w → w.own = true → ∀ b, E.tag b = .home h' → E'.tag b = .home h' ∧ H'[b]? = H[b]?)
    (c2' : ∀ h' w, h' ≠ h → ct (σ.slots ++ hs) σ.objs h' = some w → w.own = true → ∀ b m, E.tag b = .tail h' m → E'.tag b = .tail h' m ∧ H'[b]? = H[b]?)
    (c0 : ∀ b o, E.tag b = .obj o → E'.tag b = .obj o ∧ H'[b]? = H[b]?) (cf : ∀ b, H'.size ≤ b → E'.tag b = .other)
    (hrel : ∀ y, hd E (ts ++ xs) H h = some y → RelV E (σ.slots ++ hs) σ.objs (ts ++ xs) H h u y → RelV E' ((σ.turn h u').slots ++ hs) (σ.turn h u').objs (ts ++ xs) H' h u' y) :
    CoreS n E' (σ.turn h u') hs ts xs H' := by
  obtain ⟨h1, h2⟩ := ct_real' (n := n) (hs := hs) hC.sl hu hg
  refine ⟨by simp [St.turn, setSlots_len, hC.sl], hC.tl, ?_⟩
  have e := setSlots_append (slots := σ.slots) (hs := hs) (u := u') (h := h) (by rw [hC.sl]; exact h2)
  have := hC.core.turnM (u' := u') h1 hg hin (fun _ => hng) ca c1 c2 c2' c0 cf (by rw [e]; exact hrel)
  rw [e] at this
  exact this
theorem CoreS.writeHome (hC : CoreS n E σ hs ts xs H) {h : Home} {g sz : Nat} {es es' : List V} {ad : Addr} {cap : Nat} {arr arr' : Array Value} {T : TypeId} {f : Nat × Nat} (hu : ct σ.slots σ.objs h = some (.xsl g sz es))
    (hy : hd E (ts ++ xs) H h = some (.slice (some ad) es.length cap)) (ht : E.tag ad.block = .home h) (hb : H[ad.block]? = some (.cells arr T f)) (hsz : arr'.size = arr.size) (hel : es'.length = es.length)
    (hE : Elems E.imm (H.setIfInBounds ad.block (.cells arr' T f)) (some ad) sz es') : CoreS n E (σ.turn h (.xsl g sz es')) hs ts xs (H.setIfInBounds ad.block (.cells arr' T f)) := by
  have hlt := lt_of_getElem?' hb
  have hne : ∀ b, E.tag b ≠ .home h → b ≠ ad.block := by rintro b hb rfl; exact hb ht
  refine hC.turnHomeM hu (fun g => by simp) ⟨rfl, rfl, fun _ _ _ => rfl⟩ ⟨Nat.le_refl _, .inl rfl⟩ rfl (fun b i hi => ?_) (fun h' w hne' _ _ b hb' => ?_) (fun h' w hne' _ _ b m hb' => ?_) (fun b o hb' => ?_) (fun b hb' => ?_) fun y hy' hR => ?_
  · have := hne b (by intro e; simp [Env.imm, e] at hi)
    exact ⟨hi, by simp only [cellAt, set_old this]⟩
  · exact ⟨hb', set_old (hne b (by rw [hb']; intro e; cases e; exact hne' rfl))⟩
  · exact ⟨hb', set_old (hne b (by rw [hb']; intro e; cases e))⟩
  · exact ⟨hb', set_old (hne b (by rw [hb']; intro e; cases e))⟩
  · exact hC.core.fresh b (by simpa using hb')
  · rw [hy] at hy'; cases hy'
    obtain ⟨a, cap', e1, e2, e3, e4, e5, e6⟩ := hR
    cases e1
    refine ⟨some ad, cap, by rw [hel], by rw [hel]; exact e2, e3, e4, fun hc => ?_, hE⟩
    obtain ⟨ad', arr0, T0, f0, f1, f2, f3, f4, f5⟩ := e5 hc
    cases f1
    rw [hb] at f3; cases f3
    exact ⟨ad, arr', T, f, rfl, f2, Array.getElem?_setIfInBounds_self_of_lt hlt, by rw [hsz]; exact f4, by rw [hsz]; exact f5⟩
theorem Grow.writeHome {h : Home} {b : Nat} {x : Go.Obj} (ht : E.tag b = .home h) : Grow base E H E (H.setIfInBounds b x) := by
  have hne : ∀ b', E.tag b' ≠ .home h → b' ≠ b := by rintro b' hb rfl; exact hb ht
  refine ⟨by simp, fun b' i hi => ⟨hi, ?_⟩, fun b' _ ho => ⟨ho, set_old (hne b' (by rw [ho]; simp))⟩, fun b' hi => ⟨hi, set_old (hne b' (by rw [hi]; simp))⟩, fun b' m hi => ⟨hi, set_old (hne b' (by rw [hi]; simp))⟩, fun _ _ => rfl⟩
  have := hne b' (by intro e; simp [Env.imm, e] at hi)
  simp only [cellAt, set_old this]
end
end Go.Vq
namespace Go.Vq
section
variable {P : Program} {n base : Nat} {E E' : Env} {σ σ' : St} {hs : List V} {ts xs : List Value} {H H' : Array Go.Obj}
theorem setTag_imm {b : Nat} (b' i : Nat) (h : E.imm b' i) : (E.setTag b .imm).imm b' i := by
  by_cases e : b' = b
  · subst e; simp only [Env.imm, setTag_same]
  · simp only [Env.imm, setTag_ne _ _ e]; exact h
theorem Grow.setImm {b : Nat} {h : Home} (ht : E.tag b = .home h) : Grow base E H (E.setTag b .imm) H := by
  refine ⟨Nat.le_refl _, fun b' i hi => ⟨setTag_imm b' i hi, rfl⟩, fun b' _ ho => ⟨?_, rfl⟩, fun b' hi => ⟨?_, rfl⟩, fun b' m hi => ⟨?_, rfl⟩, fun _ _ => rfl⟩
  · rw [setTag_ne _ _ (by rintro rfl; rw [ht] at ho; cases ho)]; exact ho
  · rw [setTag_ne _ _ (by rintro rfl; rw [ht] at hi; cases hi)]; exact hi
  · rw [setTag_ne _ _ (by rintro rfl; rw [ht] at hi; cases hi)]; exact hi
theorem freeze1_Sound : Sound1 n base (fun _ v k => k (freeze1 v)) (fun u => u.own = false) := by
  intro E σ σ' hs ts xs H w x h i u k hC hu hr
  have hS := hand_rel hC
  have hsame : w.withLeaves (w.leaves.set i u) = w := by rw [set_same hu, withLeaves_same hS.formed]
  have hul := hS.leafs u (List.mem_of_getElem? hu)
  have hstay : ∀ u', u'.leaf = true → u'.refs1 = [] → u'.own = false → freeze1 u = u' → (∀ g, u ≠ .gone g) → (∀ slots' y, RelV E (σ.slots ++ (hs ++ [w])) σ.objs (ts ++ (xs ++ [x])) H (.slot (n + hs.length) i) u y → RelV E slots' σ.objs (ts ++ (xs ++ [x])) H (.slot (n + hs.length) i) u' y) →
      ∃ E1 σ1 u', CoreS n E1 σ1 (hs ++ [w.withLeaves (w.leaves.set i u')]) ts (xs ++ [x]) H ∧ Grow base E H E1 H ∧ E1.addr = E.addr ∧ (k u').run σ1 = some σ' ∧ u'.leaf = true ∧ u'.own = false := by
    intro u' h1 h2 h3 h4 hg h5
    refine ⟨E, σ, u', ?_, Grow.refl _ _ _, rfl, by rw [← h4]; exact hr, h1, h3⟩
    exact hC.turnHand hu hg ⟨h1, h2⟩ rfl (fun _ _ h => h) (fun _ _ _ _ _ _ h => h) (fun _ _ _ _ _ _ _ h => h) (fun _ _ h => h) (fun _ h => h) (fun y _ hR slots' => h5 slots' y hR)
  cases u
  case xsl g sz es =>
    have hwg : ∀ g, w ≠ .gone g := by rintro g rfl; cases i <;> simp [V.leaves] at hu
    obtain ⟨y, hy⟩ := exists_getElem? (l := vleaves x) (i := i) (by rw [← shape_len hS.1 hwg]; exact lt_of_getElem? hu)
    obtain ⟨a, cap, e1, e2, e3, e4, e5, e6⟩ := hS.2 i _ y hu hy
    by_cases hc : cap = 0
    · have hes : es = [] := by cases es with | nil => rfl | cons => simp [hc] at e2
      subst hes
      refine hstay (.isl 0 sz []) rfl rfl rfl rfl (fun g => by simp) fun slots' y' hR => ?_
      obtain ⟨a', cap', f1, f2, f3, f4, f5, f6⟩ := hR
      exact isl_of_view (a := a') (cap := cap') ⟨f1, f2, f3, f4, f6⟩ fun ad i e j _ hi => by simp at hi
    · obtain ⟨ad, arr, T, f, g1, g2, g3, g4, g5⟩ := e5 hc
      refine ⟨E.setTag ad.block .imm, σ, .isl 0 sz es, ?_, Grow.setImm g2, rfl, hr, rfl, rfl⟩
      refine hC.turnHand hu (fun g => by simp) ⟨rfl, rfl⟩ rfl (fun b i h => setTag_imm b i h) (fun h' w' hne _ _ b hb => ?_) (fun h' w' hne _ _ b m hb => ?_) (fun b o hb => ?_) (fun b hb => ?_) (fun y2 hy2 hR slots' => ?_)
      · rw [setTag_ne _ _ (by rintro rfl; rw [g2] at hb; cases hb; exact hne rfl)]; exact hb
      · rw [setTag_ne _ _ (by rintro rfl; rw [g2] at hb; cases hb)]; exact hb
      · rw [setTag_ne _ _ (by rintro rfl; rw [g2] at hb; cases hb)]; exact hb
      · rw [setTag_ne _ _ (by rintro rfl; rw [g2] at hb; cases hb)]; exact hb
      · rw [hy] at hy2; cases hy2
        refine isl_of_view (a := a) (cap := cap) ⟨e1, e2, e3, e4, e6.mono (fun b i h => ⟨setTag_imm b i h, rfl⟩) fun _ _ => rfl⟩ fun ad' i e j ha hi hj => ?_
        rw [g1] at ha; cases ha
        simp only [Env.imm, setTag_same]
  case fsl g sz es =>
    refine hstay (.isl 0 sz es) rfl rfl rfl rfl (fun g => by simp) fun slots' y' hR => ?_
    obtain ⟨ad, cap, e1, e2, e3, e4, e5, e6⟩ := hR
    refine isl_of_view (a := ad) (cap := cap) ⟨e1, e2, e3, e4, e6⟩ fun ad' i e j ha hi hj => ?_
    have hlt := lt_of_getElem? hi
    obtain ⟨ad'', arr, T, f, f1, f2, _⟩ := e5 (by omega)
    rw [ha] at f1; cases f1
    simp only [Env.imm, f2]
    rw [(e6.1 e (List.mem_of_getElem? hi)).1] at hj
    have : (i + 1) * sz ≤ es.length * sz := Nat.mul_le_mul_right _ hlt
    rw [Nat.add_mul] at this; omega
  case isl g sz es =>
    refine hstay (.isl 0 sz es) rfl rfl rfl rfl (fun g => by simp) fun slots' y' hR => ?_
    cases hR with
    | isl _ _ _ a cap xs hc ha hsp hz hx h => exact RelI.isl _ _ _ a cap xs hc ha hsp hz hx h
  case nilS sz =>
    refine hstay (.isl 0 sz []) rfl rfl rfl rfl (fun g => by simp) fun slots' y' hR => ?_
    have := relV_toVal hR rfl
    subst this
    exact isl_of_view (View.of_nil sz) fun ad i e j _ hi => by simp at hi
  all_goals exact ⟨E, σ, _, by simp only [freeze1]; rw [hsame]; exact hC, Grow.refl _ _ _, rfl, hr, hul, rfl⟩
theorem inElem_relI {slots : List V} {objs : List (Option Obj)} {vals : List Value} {h : Home} {u : V} {y : Value} (hR : RelV E slots objs vals H h u y) (hi : u.inElem = true) : RelI E.imm H u y := by
  cases u <;> first | exact hR | (simp [V.inElem] at hi; done)
end
end Go.Vq
namespace Go.Vq
section
variable {P : Program} {n base : Nat} {E E' : Env} {σ σ' : St} {hs : List V} {ts xs : List Value} {H H' : Array Go.Obj}
structure ImmV (E : Env) (H : Array Go.Obj) (v : V) (x : Value) : Prop where
  shape : Shape v x
  formed : v.formed
  cells : ∀ (i : Nat) (u : V) (y : Value), v.leaves[i]? = some u → (vleaves x)[i]? = some y → RelI E.imm H u y
  elem : ∀ u ∈ v.leaves, u.inElem = true
theorem inElem_leaf {u : V} (h : u.inElem = true) : u.leaf = true ∧ u.refs1 = [] ∧ u.own = false ∧ ∀ g, u ≠ .gone g := by
  cases u <;> first | (simp [V.inElem] at h; done) | exact ⟨rfl, rfl, rfl, fun g => by simp⟩
theorem ImmV.mono {v : V} {x : Value} (h : ImmV E H v x) (c1 : ∀ b i, E.imm b i → E'.imm b i ∧ cellAt H' b i = cellAt H b i) : ImmV E' H' v x :=
  ⟨h.shape, h.formed, fun i u y h1 h2 => (h.cells i u y h1 h2).mono c1, h.elem⟩
theorem gImm_sound {o : Opd} {x : Value} {k : V → Prog} (hC : CoreS n E σ hs ts xs H) (ho : OpdOk ts o x) (hr : (gImm o k).run σ = some σ') :
    ∃ E1 σ1 v, CoreS n E1 σ1 hs ts xs H ∧ Grow base E H E1 H ∧ E1.addr = E.addr ∧ (k v).run σ1 = some σ' ∧ ImmV E1 H v x := by
  obtain ⟨v, hr, hv, hrf, h1, h2⟩ := opd_rel (v := .nil) hC ho hr
  rw [Prog.run_ite] at hr
  split at hr
  · rename_i hp
    obtain ⟨y, hy⟩ := plain_toVal hp
    obtain ⟨s, hS, _⟩ := hv
    have e := slot_toVal hS hy
    subst e
    refine ⟨E, σ, freeze1 v, hC, Grow.refl _ _ _, rfl, hr, ?_⟩
    have hx := (toVal_plain hy).2
    have hfl : (freeze1 v).leaf = true ∧ (freeze1 v).inElem = true ∧ RelI E.imm H (freeze1 v) x := by
      have hI := toVal_rel hy E.imm H
      cases v <;> first
        | (simp [V.plain] at hp; done)
        | exact ⟨rfl, rfl, hI⟩
        | (simp only [V.toVal, Option.some.injEq] at hy
           subst hy
           exact ⟨rfl, rfl, isl_of_view (View.of_nil _) fun ad i e j _ hi => by simp at hi⟩)
    refine ⟨shape_leaf hfl.1 hx, by cases v <;> first | trivial | (simp [V.plain] at hp), fun i u y hu hy => ?_, fun u hu => ?_⟩
    · rw [leaves_leaf hfl.1] at hu; rw [vleaves_leaf hx] at hy
      cases i with
      | zero => simp at hu hy; subst hu hy; exact hfl.2.2
      | succ i => simp at hu
    · rw [leaves_leaf hfl.1] at hu; simp at hu; subst hu; exact hfl.2.1
  · obtain ⟨E1, σ1, a1, a2, a3, a4⟩ := grab_sound (base := base) hC hv hrf h1 h2 ho hr
    obtain ⟨E2, σ2, ls, b1, b2, b3, b4, b5, b6⟩ := settle_sound (base := base) (fun _ => none) a1 a4
    have hfo := (hand_rel a1).formed
    have hwl : (v.withLeaves ls).leaves = ls := withLeaves_leaves hfo b5 fun u hu => (b6 u hu).1
    obtain ⟨E3, σ3, ls', c1, c2, c3, c4, c5, c6⟩ := list_sound (base := base) freeze1_Sound (fun _ _ vs k => k (vs.map freeze1)) (fun _ _ _ => rfl) (fun _ _ _ _ _ => rfl) (fun _ => none) (v.withLeaves ls).leaves []
      b1 rfl (k := fun ls => if ls.all V.inElem then k (v.withLeaves ls) else .fail) (by rw [hwl]; exact b4)
    rw [Prog.run_ite] at c4
    split at c4
    · rename_i hin
      have hl5 : ls'.length = v.leaves.length := by rw [c5, hwl]; exact b5
      have e1 : (v.withLeaves ls).withLeaves ([] ++ ls') = v.withLeaves ls' := by
        rw [List.nil_append]; exact withLeaves_twice hfo b5 (fun u hu => (b6 u hu).1) hl5
      rw [e1] at c1
      have hS3 := hand_rel c1
      have hw3 : (v.withLeaves ls').leaves = ls' := withLeaves_leaves hfo hl5 fun u hu => (c6 u hu).1
      refine ⟨E3, σ3, _, c1.pop, (a2.trans b2).trans c2, (c3.trans b3).trans a3, c4, hS3.1, hS3.formed, fun i u y hu hy => ?_, fun u hu => ?_⟩
      · have := List.all_eq_true.1 hin u (by rw [hw3] at hu; exact List.mem_of_getElem? hu)
        exact inElem_relI (hS3.2 i u y hu hy) this
      · rw [hw3] at hu; exact List.all_eq_true.1 hin u hu
    · cases c4
end
end Go.Vq
namespace Go.Vq
section
variable {P : Program} {n base : Nat} {E E' : Env} {σ σ' : St} {hs : List V} {ts xs : List Value} {H H' : Array Go.Obj}
variable {callee : Callee} {o : Oper} {a : Act} {w : World} {next : Act → World → Prop} {Q : Exit → Act → World → Prop}
theorem ImmV.cellsOk {v : V} {x : Value} (h : ImmV E H v x) (hv : v.here = true) : v.cells = v.leaves ∧ x.cells.toList = vleaves x ∧ x.cells.size = v.leaves.length ∧ ∀ z ∈ vleaves x, leafX z = true := by
  have hS : SlotRel E [] [] [] H 0 v x := by
    refine ⟨h.shape, fun i u y hu hy => ?_⟩
    have := h.cells i u y hu hy
    exact (relI_rel (E := E) this (inElem_leaf (h.elem u (List.mem_of_getElem? hu))).1).1 _ _ _ _
  obtain ⟨e1, e2, e3⟩ := here_cells hS hv
  exact ⟨e1, e2, e3, here_leafX hS hv⟩
theorem setCells_ok {e : V} {sz off : Nat} {vs : List V} (he : elemOk sz e) (hvl : ∀ u ∈ vs, u.leaf = true) (h : off + vs.length ≤ e.cells.length) :
    elemOk sz (e.setCells off vs) ∧ ∀ j : Nat, (e.setCells off vs).cells[j]? = if off ≤ j ∧ j < off + vs.length then vs[j - off]? else e.cells[j]? := by
  by_cases hl : e.leaf = true
  · have e1 := cells_leaf hl
    have e2 : e.setCells off vs = vs.headD e := by cases e <;> first | rfl | (simp [V.leaf] at hl)
    rw [e2]
    rw [e1] at h
    cases vs with
    | nil =>
      refine ⟨he, fun j => ?_⟩
      rw [if_neg (by simp)]; rfl
    | cons u us =>
      simp at h
      have : us = [] := by cases us with | nil => rfl | cons => simp at h; omega
      subst this
      have h0 : off = 0 := by simp at h; omega
      subst h0
      have hu := hvl u (by simp)
      simp only [List.headD_cons]
      refine ⟨⟨?_, ?_⟩, fun j => ?_⟩
      · rw [cells_leaf hu]; have := he.1; rw [e1] at this; simpa using this
      · rw [cells_leaf hu]; simp [hu]
      · rw [cells_leaf hu, e1]
        cases j with
        | zero => simp
        | succ j => rw [if_neg (by simp)]; simp
  · cases e <;> first | (exact absurd rfl hl) | skip
    · rename_i cs
      have h' : off + vs.length ≤ cs.length := h
      refine ⟨⟨?_, fun u hu => ?_⟩, fun j => splice_get h'⟩
      · rw [← he.1]; exact splice_len h'
      · obtain ⟨j, hj⟩ := List.mem_iff_getElem?.1 hu
        replace hj : (splice cs off vs)[j]? = some u := hj
        rw [splice_get h'] at hj
        split at hj
        · exact hvl u (List.mem_of_getElem? hj)
        · exact he.2 u (List.mem_of_getElem? hj)
    · have := he.2 _ (List.mem_singleton.2 rfl); simp [V.leaf] at this
theorem elems_set {imm : Nat → Nat → Prop} {ad : Addr} {sz i off : Nat} {es vs : List V} {e : V} {arr : Array Value} {T : TypeId} {f : Nat × Nat} {ys : List Value} (hel : Elems imm H (some ad) sz es) (hb : H[ad.block]? = some (.cells arr T f))
    (hi : es[i]? = some e) (hvl : ∀ u ∈ vs, u.leaf = true) (hle : off + vs.length ≤ e.cells.length) (hys : ys.length = vs.length) (hfit : ad.off + es.length * sz ≤ arr.size)
    (himm : ∀ b j, imm b j → b ≠ ad.block) (hv : ∀ (j : Nat) (u : V) (y : Value), vs[j]? = some u → ys[j]? = some y → RelI imm H u y) :
    Elems imm (H.setIfInBounds ad.block (.cells (setsA arr (ad.off + (i * sz + off)) ys) T f)) (some ad) sz (es.set i (e.setCells off vs)) := by
  have he := hel.1 e (List.mem_of_getElem? hi)
  obtain ⟨k1, k2⟩ := setCells_ok he hvl hle
  have hlt := lt_of_getElem?' hb
  have hilt := lt_of_getElem? hi
  have hrow : (i + 1) * sz ≤ es.length * sz := Nat.mul_le_mul_right _ hilt
  rw [Nat.add_mul] at hrow
  have hsz := he.1
  have hm : ∀ b j, imm b j → imm b j ∧ cellAt (H.setIfInBounds ad.block (.cells (setsA arr (ad.off + (i * sz + off)) ys) T f)) b j = cellAt H b j := fun b j h => ⟨h, by simp only [cellAt, set_old (himm b j h)]⟩
  have hcell : ∀ k, cellAt (H.setIfInBounds ad.block (.cells (setsA arr (ad.off + (i * sz + off)) ys) T f)) ad.block k = if ad.off + (i * sz + off) ≤ k ∧ k < ad.off + (i * sz + off) + ys.length then ys[k - (ad.off + (i * sz + off))]? else arr[k]? := by
    intro k
    simp only [cellAt, Array.getElem?_setIfInBounds_self_of_lt hlt]
    exact setsA_get _ _ _ _ (by omega)
  have hcell0 : ∀ k, cellAt H ad.block k = arr[k]? := by intro k; simp only [cellAt, hb]
  refine ⟨fun z hz => ?_, fun i' z j u hz hu => ?_⟩
  · rcases List.mem_or_eq_of_mem_set hz with h | h
    · exact hel.1 z h
    · exact h ▸ k1
  · by_cases hii : i' = i
    · subst hii
      rw [List.getElem?_set_self hilt] at hz; cases hz
      have hj := lt_of_getElem? hu
      rw [k1.1] at hj
      rw [k2] at hu
      by_cases hin : off ≤ j ∧ j < off + vs.length
      · rw [if_pos hin] at hu
        obtain ⟨y, hy⟩ := exists_getElem? (l := ys) (i := j - off) (by omega)
        refine ⟨ad, y, rfl, ?_, (hv _ u y hu hy).mono hm⟩
        rw [hcell, if_pos (by omega), ← hy]; congr 1; omega
      · rw [if_neg hin] at hu
        obtain ⟨ad', y, e1, e2, e3⟩ := hel.2 i' e j u hi hu
        cases e1
        refine ⟨ad, y, rfl, ?_, e3.mono hm⟩
        rw [hcell, if_neg (by omega), ← hcell0]; exact e2
    · rw [List.getElem?_set_ne (fun h => hii h.symm)] at hz
      obtain ⟨ad', y, e1, e2, e3⟩ := hel.2 i' z j u hz hu
      cases e1
      have hj := lt_of_getElem? hu
      rw [(hel.1 z (List.mem_of_getElem? hz)).1] at hj
      refine ⟨ad, y, rfl, ?_, e3.mono hm⟩
      rw [hcell, if_neg ?_, ← hcell0]
      · exact e2
      · rintro ⟨q1, q2⟩
        rcases Nat.lt_or_gt_of_ne hii with h | h
        · have h3 : (i' + 1) * sz ≤ i * sz := Nat.mul_le_mul_right _ h
          rw [Nat.add_mul] at h3; omega
        · have h3 : (i + 1) * sz ≤ i' * sz := Nat.mul_le_mul_right _ h
          rw [Nat.add_mul] at h3; omega
end
end Go.Vq
namespace Go.Vq
section
variable {P : Program} {n base : Nat} {E E' : Env} {σ σ' : St} {hs : List V} {ts xs : List Value} {H H' : Array Go.Obj}
variable {callee : Callee} {o : Oper} {a : Act} {w : World} {next : Act → World → Prop} {Q : Exit → Act → World → Prop}
theorem op_storeElem {t : TypeId} {p x : Operand} {x' : Opd} {m : Nat} (ho : o.op = .store t p x) (hs : szOf P t = some m) (hx : opd P t x = some x') (hd' : o.dst = none)
    {h : Home} {g sz i off : Nat} (hC : CoreS n E σ [] a.tmps.toList [] w.heap)
    (hpv : RelV E (σ.slots ++ []) σ.objs (a.tmps.toList ++ []) w.heap (.slot 0 0) (.ptr (.elem h g sz i off)) (a.eval p)) (hrf : RefsOk n (σ.slots ++ []) σ.objs [(h, g)])
    (hr : (gImm x' fun v => if v.cells.length = m ∧ v.here = true then sCells (.elem h g sz i off) v.cells .ret else .fail).run σ = some σ') (K : NextOk n base E σ' a w next) : o.upon P a next Q ((execOp a.eval o).run P w) := by
  have hC0 := hC.pushLeaf (v := .ptr (.elem h g sz i off)) (x := a.eval p) rfl rfl hpv hrf
  obtain ⟨E1, σ1, v, hC1, hG1, ha1, hr, hI⟩ := gImm_sound (base := base) hC0 (opd_ok a hx) hr
  rw [Prog.run_ite] at hr
  split at hr
  · rename_i hc
    obtain ⟨hlen, hv⟩ := hc
    obtain ⟨c1, c2, c3, c4⟩ := hI.cellsOk hv
    simp only [sCells] at hr
    replace hr := gElems_run hr
    obtain ⟨u, own, es, hu, hk, hr⟩ := hr
    split at hr
    · rename_i e he
      rcases hk with ⟨rfl, _⟩ | ⟨_, hf⟩
      · rw [Prog.run_ite] at hr
        split at hr
        · rename_i hle
          obtain ⟨d4, d5⟩ := ct_real' (n := n) (hs := [] ++ [V.ptr (.elem h g sz i off)]) hC1.sl hu (fun g => by simp)
          obtain ⟨y, a0, cap, f1, f2, f3, _, _⟩ := hC1.core.homeView d4 (.inl rfl)
          have hilt := lt_of_getElem? he
          have hle2 := f2.le
          obtain ⟨ad, arr, T, f, b1, b2, b3, b4, b5⟩ := f3 rfl (by omega)
          subst b1
          have hvl : valid (σ1.slots ++ ([] ++ [V.ptr (.elem h g sz i off)])) σ1.objs h g sz := ⟨_, d4, rfl⟩
          obtain ⟨_, hRp⟩ := rel_leaf (hand_rel hC1) rfl (fun g => by simp)
          obtain ⟨ad', e1, e2⟩ := hRp
          obtain ⟨ad0, l, c, e3, e4⟩ := e2 hvl
          rw [f1] at e3; cases e3
          have e5 := f2.eq
          injection e5 with e5 e6 e7
          cases e5
          have he1 := (f2.elems.1 e (List.mem_of_getElem? he)).1
          have hrow : (i + 1) * sz ≤ es.length * sz := Nat.mul_le_mul_right _ hilt
          have hrow2 : es.length * sz ≤ cap * sz := Nat.mul_le_mul_right _ hle2
          rw [Nat.add_mul] at hrow
          have hvls : (vleaves (a.eval x)).length = v.cells.length := by rw [← c2, c1, ← c3]; simp
          have hfit : ad.off + (i * sz + off) + 0 + (vleaves (a.eval x)).length ≤ arr.size := by omega
          have hst := storeCells_run (P := P) (b := ad.block) (off := ad.off + (i * sz + off)) (T := T) (f := f) (vleaves (a.eval x)) 0 arr w b3 b5 hfit c4
          have hne : ∀ b j, E1.imm b j → b ≠ ad.block := by rintro b j hb rfl; simp [Env.imm, b2] at hb
          have hE := elems_set (vs := v.cells) f2.elems b3 he (fun u hu => by rw [c1] at hu; exact (inElem_leaf (hI.elem u hu)).1) hle hvls (by omega) hne (fun j u y h1 h2 => hI.cells j u y (by rw [← c1]; exact h1) h2)
          have hC2 := hC1.writeHome (arr' := setsA arr (ad.off + (i * sz + off)) (vleaves (a.eval x))) hu (by rw [f1, f2.eq]) b2 b3 (setsA_size _ _ _) (by simp) hE
          obtain ⟨_, hr⟩ := sHome_run hr
          cases hr
          have hsz : (a.eval x).cells.size = m := by rw [c3, ← c1]; exact hlen
          have hrun : (execOp a.eval o).run P w = .ok .skip { w with heap := w.heap.setIfInBounds ad.block (.cells (setsA arr (ad.off + (i * sz + off)) (vleaves (a.eval x))) T f) } := by
            simp only [execOp, ho, e1, e4, Instr.storeAt, Instr.sureAddr, storeVar, Sem.run_bind, Sem.run_pure, Result.andThen_ok, run_size hs, hsz]
            simp only [ne_eq, not_true_eq_false, if_false, c2, hst, Sem.run_bind, Sem.run_pure, Result.andThen_ok, Nat.add_zero]
          rw [hrun, Oper.upon_skip]
          have hput : a.put o.dst undef = a := by rw [hd']; rfl
          rw [hput]
          exact K _ _ { w with heap := w.heap.setIfInBounds ad.block (.cells (setsA arr (ad.off + (i * sz + off)) (vleaves (a.eval x))) T f) } hC2.pop (hG1.trans (Grow.writeHome b2)) ⟨rfl, rfl, rfl⟩ rfl
        · cases hr
      · cases hf
    · cases hr
  · cases hr
end
end Go.Vq
namespace Go.Vq
section
variable {P : Program} {n base : Nat} {E E' : Env} {σ σ' : St} {hs : List V} {ts xs : List Value} {H H' : Array Go.Obj}
variable {callee : Callee} {o : Oper} {a : Act} {w : World} {next : Act → World → Prop} {Q : Exit → Act → World → Prop}
theorem op_store {t : TypeId} {p x : Operand} {p' x' : Opd} {m : Nat} (ho : o.op = .store t p x) (hs : szOf P t = some m) (hp : opd0 p = some p') (hx : opd P t x = some x') (hd : o.dst = none) (hC : CoreS n E σ [] a.tmps.toList [] w.heap)
    (hr : (opProg callee base o.dst (.store m p' x')).run σ = some σ') (K : NextOk n base E σ' a w next) : o.upon P a next Q ((execOp a.eval o).run P w) := by
  obtain ⟨u, hr1, ⟨s, hS, hs'⟩, hrf, _⟩ := opd_rel (v := .nil) hC (opd0_ok a hp) hr
  clear hr hs'
  split at hr1
  · rename_i ob off
    obtain ⟨_, hR⟩ := rel_leaf hS rfl (fun g => by simp)
    exact op_storeObj ho hs hp hx hd hC hR hr1 K
  · rename_i h g sz i off
    obtain ⟨_, hR⟩ := rel_leaf hS rfl (fun g => by simp)
    exact op_storeElem ho hs hx hd hC hR (fun r hr => hrf r (by simpa [V.refs, V.leaves, V.refs1] using hr)) hr1 K
  · cases hr1
end
end Go.Vq
namespace Go.Vq
section
variable {n : Nat} {E : Env} {slots : List V} {objs : List (Option Obj)} {vals : List Value} {H : Array Go.Obj}
theorem Core.addBlock (hC : Core n E slots objs vals H) (τ : Tag) (x : Go.Obj) : Core n (E.setTag H.size τ) slots objs vals (H.push x) := by
  have hbnd : ∀ b, E.tag b ≠ .other → b < H.size := by
    intro b hb
    rcases Nat.lt_or_ge b H.size with h | h
    · exact h
    · exact absurd (hC.fresh b h) hb
  have ht : ∀ b t, E.tag b = t → t ≠ .other → (E.setTag H.size τ).tag b = t ∧ (H.push x)[b]? = H[b]? := by
    intro b t hb hne
    have := hbnd b (by rw [hb]; exact hne)
    exact ⟨by rw [setTag_ne _ _ (by omega)]; exact hb, push_old this⟩
  have c1 : ∀ b i, E.imm b i → (E.setTag H.size τ).imm b i ∧ cellAt (H.push x) b i = cellAt H b i := by
    intro b i hi
    have hb : b < H.size := hbnd b (by intro h; simp [Env.imm, h] at hi)
    exact ⟨by simp only [Env.imm, setTag_ne _ _ (show b ≠ H.size by omega)]; exact hi, cellAt_push hb⟩
  have hk : HomesKept n E slots objs vals H (E.setTag H.size τ) slots objs vals (H.push x) := by
    intro h u _ hu _
    refine ⟨u, hu, Nat.le_refl _, .inl ⟨rfl, ?_⟩⟩
    cases h with
    | slot s i => rfl
    | obj o' i =>
      simp only [ct] at hu
      split at hu
      · rename_i cs' ho'
        obtain ⟨arr', T', f', h1, _⟩ := hC.obj o' cs' ho'
        exact cellAt_push (lt_of_getElem?' h1)
      · cases hu
  refine ⟨hC.len, hC.real, fun s u y hs hy => ⟨(hC.slot s u y hs hy).1, fun i w z hw hz => hC.leaf hk c1 rfl hs hy hw hz (fun _ b hb => ht b _ hb (by simp)) (fun _ b m hb => ht b _ hb (by simp))⟩, fun o cs ho => ?_, fun b hb => ?_, fun s u hs r hr => ?_⟩
  · exact hC.objKept c1 rfl ho (fun h => ht _ _ h (by simp)) (fun _ _ _ _ b hb => ht b _ hb (by simp)) (fun _ _ _ _ b m hb => ht b _ hb (by simp))
  · simp only [Array.size_push] at hb
    rw [setTag_ne _ _ (by omega)]; exact hC.fresh b (by omega)
  · have := hC.refs s u hs r hr
    exact ⟨this.1, hk.bound this⟩
end
section
variable {P : Program} {n base : Nat} {E E' : Env} {σ σ' : St} {hs : List V} {ts xs : List Value} {H H' : Array Go.Obj}
theorem CoreS.newBlock (hC : CoreS n E σ hs ts xs H) {sz cap : Nat} {es : List V} {arr : Array Value} {T : TypeId} {f : Nat × Nat} (hcap : es.length ≤ cap) (hfit : cap * sz ≤ arr.size) (hf : open_ f arr.size)
    (hE : Elems (E.setTag H.size (.home (.slot (n + hs.length) 0))).imm (H.push (.cells arr T f)) (some ⟨H.size, 0, none⟩) sz es) :
    CoreS n (E.setTag H.size (.home (.slot (n + hs.length) 0))) σ (hs ++ [.xsl 0 sz es]) ts (xs ++ [.slice (some ⟨H.size, 0, none⟩) es.length cap]) (H.push (.cells arr T f)) := by
  refine ⟨hC.sl, hC.tl, ?_⟩
  rw [← List.append_assoc, ← List.append_assoc]
  refine (hC.core.addBlock (.home (.slot (n + hs.length) 0)) (.cells arr T f)).push ⟨rfl, fun i u y hu hy => ?_⟩ (by intro r hr; simp [V.refs, V.leaves, V.refs1] at hr)
  have hN : (σ.slots ++ hs).length = n + hs.length := by simp [hC.sl]
  cases i with
  | zero =>
    simp only [V.leaves, List.getElem?_cons_zero, Option.some.injEq] at hu
    simp only [vleaves, List.getElem?_cons_zero, Option.some.injEq] at hy
    subst hu hy
    refine ⟨_, _, rfl, hcap, fun h => (by cases h), fun ad h _ => (by cases h; rfl), fun _ => ⟨_, arr, T, f, rfl, ?_, ?_, by simpa using hfit, hf⟩, hE⟩
    · rw [hN]; exact setTag_same _ _ _
    · simp
  | succ i => simp [V.leaves] at hu
theorem Grow.newBlock {τ : Tag} {x : Go.Obj} (hf : ∀ b, H.size ≤ b → E.tag b = .other) : Grow base E H (E.setTag H.size τ) (H.push x) := by
  have hbnd : ∀ b, E.tag b ≠ .other → b < H.size := by
    intro b hb
    rcases Nat.lt_or_ge b H.size with h | h
    · exact h
    · exact absurd (hf b h) hb
  refine ⟨by simp, fun b i hi => ?_, fun b hb ho => ⟨by rw [setTag_ne _ _ (by omega)]; exact ho, push_old hb⟩, fun b hi => ?_, fun b m hi => ?_, fun _ _ => rfl⟩
  · have hb : b < H.size := hbnd b (by intro h; simp [Env.imm, h] at hi)
    exact ⟨by simp only [Env.imm, setTag_ne _ _ (show b ≠ H.size by omega)]; exact hi, cellAt_push hb⟩
  · have hb := hbnd b (by rw [hi]; simp)
    exact ⟨by rw [setTag_ne _ _ (by omega)]; exact hi, push_old hb⟩
  · have hb := hbnd b (by rw [hi]; simp)
    exact ⟨by rw [setTag_ne _ _ (by omega)]; exact hi, push_old hb⟩
end
end Go.Vq
namespace Go.Vq
section
variable {P : Program} {n base : Nat} {E E' : Env} {σ σ' : St} {hs : List V} {ts xs : List Value} {H H' : Array Go.Obj}
variable {callee : Callee} {o : Oper} {a : Act} {w : World} {next : Act → World → Prop} {Q : Exit → Act → World → Prop}
theorem freeze1_plain {imm : Nat → Nat → Prop} {v : V} {x : Value} (h : RelI imm H v x) (hp : v.plain = true) : RelI imm H (freeze1 v) x ∧ (freeze1 v).leaf = true := by
  cases v <;> first | (simp [V.plain] at hp; done) | exact ⟨h, rfl⟩ | skip
  cases h
  refine ⟨.isl 0 _ [] none 0 (fun _ _ => undef) (by simp) (fun _ => rfl) (fun _ h => by cases h) (fun _ h => by cases h) (fun _ _ _ _ _ h => by cases h) (fun _ _ _ _ h => by simp at h), rfl⟩
theorem zeroOf_ok {t : TypeId} {zs : List V} (hz : zeroOf P t = some zs) : ∃ inf z, P.info? t = some inf ∧ inf.zero = some z ∧ zs.length = z.cells.size ∧
    ∀ (i : Nat) (v : V) (x : Value), zs[i]? = some v → z.cells[i]? = some x → v.plain = true ∧ ∀ (imm : Nat → Nat → Prop) (H : Array Go.Obj), RelI imm H v x := by
  unfold zeroOf at hz
  simp only [Option.bind_eq_bind] at hz
  obtain ⟨inf, hi, hz⟩ := Option.bind_eq_some_iff.1 hz
  obtain ⟨z, hz1, hz⟩ := Option.bind_eq_some_iff.1 hz
  obtain ⟨tys, _, hz⟩ := Option.bind_eq_some_iff.1 hz
  obtain ⟨h1, h2⟩ := valsOf_rel hz
  refine ⟨inf, z, hi, hz1, by simpa using h1, fun i v x hv hx => ?_⟩
  obtain ⟨t', ht'⟩ := h2 i v x hv (by simpa using hx)
  exact ⟨valOf_plain ht', (valOf_rel ht').2.2.2.2.2⟩
theorem zeroElem {t : TypeId} {zs : List V} {agg : Bool} {e : V} (hz : zeroOf P t = some zs) (he : ofCells agg (zs.map freeze1) = some e) : e.cells = zs.map freeze1 ∧ ∀ u ∈ e.cells, u.leaf = true := by
  obtain ⟨inf, z, _, _, h1, h2⟩ := zeroOf_ok hz
  have hl : ∀ u ∈ zs.map freeze1, u.leaf = true := by
    intro u hu
    obtain ⟨v, hv, rfl⟩ := List.mem_map.1 hu
    obtain ⟨i, hi, rfl⟩ := List.getElem_of_mem hv
    obtain ⟨p, r⟩ := h2 i _ _ (List.getElem?_eq_getElem hi) (Array.getElem?_eq_getElem (h1 ▸ hi))
    exact (freeze1_plain (r (fun _ _ => True) #[]) p).2
  suffices h : e.cells = zs.map freeze1 by exact ⟨h, by rw [h]; exact hl⟩
  cases agg with
  | true => simp only [ofCells, if_true, Option.some.injEq] at he; subst he; rfl
  | false =>
    simp only [ofCells, Bool.false_eq_true, if_false] at he
    split at he
    · rename_i u0 hv
      cases he
      rw [hv]
      exact cells_leaf (hl e (by rw [hv]; exact List.mem_singleton.2 rfl))
    · cases he
def zrow (zero : Array Value) (m : Nat) : Array Value := (Array.range m).map (zero[· % zero.size]!)
theorem zrow_get {zero : Array Value} {m k : Nat} (h : k < m) (hz : 0 < zero.size) : ∃ x, (zrow zero m)[k]? = some x ∧ zero[k % zero.size]? = some x := by
  have hlt := Nat.mod_lt k hz
  refine ⟨zero[k % zero.size], ?_, Array.getElem?_eq_getElem hlt⟩
  rw [zrow, Array.getElem?_map, Array.getElem?_range, if_pos h]
  simp [getElem!_pos zero (k % zero.size) hlt]
theorem zrow_size (zero : Array Value) (m : Nat) : (zrow zero m).size = m := by simp [zrow]
theorem zeroRel {t : TypeId} {zs : List V} {agg : Bool} {e : V} {inf : TypeInfo} {z : Value} (hz : zeroOf P t = some zs) (he : ofCells agg (zs.map freeze1) = some e) (hi : P.info? t = some inf) (hzv : inf.zero = some z) {m i j : Nat} {v : V} (hm : i < m)
    (hv : e.cells[j]? = some v) (imm : Nat → Nat → Prop) (H : Array Go.Obj) : ∃ x, (zrow z.cells (m * zs.length))[i * zs.length + j]? = some x ∧ RelI imm H v x := by
  obtain ⟨inf', z', hi', hz', h1, h2⟩ := zeroOf_ok hz
  rw [hi] at hi'; cases hi'
  rw [hzv] at hz'; cases hz'
  obtain ⟨c1, _⟩ := zeroElem hz he
  rw [c1] at hv
  have hj : j < zs.length := by simpa using lt_of_getElem? hv
  have hrow : (i + 1) * zs.length ≤ m * zs.length := Nat.mul_le_mul_right _ hm
  rw [Nat.add_mul] at hrow
  obtain ⟨x, e1, e2⟩ := zrow_get (zero := z.cells) (m := m * zs.length) (k := i * zs.length + j) (by omega) (by omega)
  rw [← h1, Nat.add_comm, Nat.add_mul_mod_self_right, Nat.mod_eq_of_lt hj] at e2
  refine ⟨x, e1, ?_⟩
  rw [List.getElem?_map] at hv
  obtain ⟨v0, hv0, rfl⟩ := Option.map_eq_some_iff.1 hv
  obtain ⟨p, r⟩ := h2 j v0 x hv0 e2
  exact (freeze1_plain (r imm H) p).1
theorem cellAt_pushed {H : Array Go.Obj} {arr : Array Value} {T : TypeId} {f : Nat × Nat} (i : Nat) : cellAt (H.push (.cells arr T f)) H.size i = arr[i]? := by simp [cellAt]
theorem op_makeSlice {t e : TypeId} {l c : Operand} {l' c' : Opd} {sz bytes : Nat} {zs : List V} {agg : Bool} {zero : V} (ho : o.op = .makeSlice t l c) (ht : under P t = some (.slice e)) (hs : szOf P e = some sz) (hb : bytesOf P e = some bytes)
    (hz : zeroOf P e = some zs) (hzl : zs.length = sz) (hsz : sz ≠ 0) (hzero : ofCells agg (zs.map freeze1) = some zero) (hl : opd0 l = some l') (hc : opd0 c = some c') (hC : CoreS n E σ [] a.tmps.toList [] w.heap)
    (hr : (opProg callee base o.dst (.makeSlice sz bytes zero l' c')).run σ = some σ') (K : NextOk n base E σ' a w next) : o.upon P a next Q ((execOp a.eval o).run P w) := by
  obtain ⟨k1, m, hm, hr⟩ := gInt_sound hC (opd0_ok a hl) hr
  obtain ⟨k2, q, hq, hr⟩ := gInt_sound hC (opd0_ok a hc) hr
  rw [Prog.run_ite] at hr
  split at hr
  · rename_i hcnd
    obtain ⟨g1, g2, g3, g4⟩ := hcnd
    obtain ⟨inf, z, hi, hz1, h1, h2⟩ := zeroOf_ok hz
    have hinf : inf.size = sz := by simp only [szOf, hi, Option.map_some, Option.some.injEq] at hs; exact hs
    have hby : inf.bytes = bytes := by simp only [bytesOf, hi, Option.map_some, Option.some.injEq] at hb; exact hb
    obtain ⟨c1, c2⟩ := zeroElem hz hzero
    subst hzl
    have hC1 := hC.newBlock (cap := q.toNat) (sz := zs.length) (es := List.replicate m.toNat zero) (arr := zrow z.cells (q.toNat * zs.length)) (T := e) (f := (0, 0)) (by simp; omega) (by rw [zrow_size]; exact Nat.le_refl _) (open_00 _) (by
      refine ⟨fun u hu => ?_, fun i u j v h3 h4 => ?_⟩
      · rw [(List.mem_replicate.1 hu).2]
        exact ⟨by rw [c1]; simp, c2⟩
      · have hil := lt_of_getElem? h3
        rw [List.length_replicate] at hil
        rw [List.getElem?_replicate] at h3
        split at h3
        · cases h3
          obtain ⟨x, e1, e2⟩ := zeroRel hz hzero hi hz1 (m := q.toNat) (i := i) (by omega) h4 (E.setTag w.heap.size (.home (.slot (n + ([] : List V).length) 0))).imm (w.heap.push (.cells (zrow z.cells (q.toNat * zs.length)) e (0, 0)))
          exact ⟨_, x, rfl, by rw [cellAt_pushed]; simpa using e1, e2⟩
        · omega)
    refine value_end (w1 := { w with heap := w.heap.push (.cells (zrow z.cells (q.toNat * zs.length)) e (0, 0)) }) hC1 (Grow.newBlock hC.core.fresh) ⟨rfl, rfl, rfl⟩ hr K ?_
    have w1 : IntKind.i64.wrap m = m := by rw [IntKind.wrap_i64]; omega
    have w2 : IntKind.i64.wrap q = q := by rw [IntKind.wrap_i64]; omega
    have t1 : ¬ (281474976710656 < (bytes : Int) * q) := by rw [Int.mul_comm]; omega
    have t2 : ¬ m < 0 := by omega
    have t3 : ¬ q < m := by omega
    have t4 : ¬ q < 0 := by omega
    simp [execOp, ho, Instr.makeSlice, run_under ht, hm, hq, asInt, asIntOf, typeInfo, hi, hinf, hby, w1, w2, t1, t2, t3, t4, sizeOf, zeroValue, hz1, newRow, hsz]
    by_cases hq0 : q.toNat = 0
    · have : q = 0 := by omega
      subst this
      have hr0 : Array.range 0 = #[] := rfl
      simp [zrow, hr0]
    · have h0 : ¬ q ≤ 0 := by omega
      have h1 : q.toNat * zs.length ≠ 0 := Nat.mul_ne_zero hq0 hsz
      simp [h0, zrow]
      intro h; exact absurd h h1
  · cases hr
end
end Go.Vq
namespace Go.Vq
section
variable {n : Nat} {E : Env} {slots : List V} {objs : List (Option Obj)} {vals : List Value} {H : Array Go.Obj}
theorem Core.join {vs : List V} {ys : List Value} {p : V} {xp : Value} {f : Home → Home} (hC : Core n E (slots ++ vs) objs (vals ++ ys) H) (hn : n ≤ slots.length) (hl : slots.length = vals.length) (hs : Shape p xp)
    (hp : ∀ (j : Nat) (u : V) (y : Value), p.leaves[j]? = some u → (vleaves xp)[j]? = some y → ∃ k i v x, vs[k]? = some v ∧ ys[k]? = some x ∧ v.leaves[i]? = some u ∧ (vleaves x)[i]? = some y ∧ (u.own = true → f (.slot (slots.length + k) i) = .slot slots.length j))
    (hpr : ∀ u ∈ p.leaves, ∃ v ∈ vs, u ∈ v.leaves)
    (f1 : ∀ s i, s < slots.length → f (.slot s i) = .slot s i) (f2 : ∀ o i, f (.obj o i) = .obj o i) :
    Core n (E.retag f) (slots ++ [p]) objs (vals ++ [xp]) H := by
  have c1 := Env.retag_c1 E f H
  have hk : HomesKept n E (slots ++ vs) objs (vals ++ ys) H (E.retag f) (slots ++ [p]) objs (vals ++ [xp]) H := by
    intro h u hh hu _
    refine ⟨u, ?_, Nat.le_refl _, .inl ⟨rfl, ?_⟩⟩
    · cases h with
      | slot s i =>
        have := hh s i rfl
        rw [ct_append_left _ _ _ _ _ (by omega)] at hu ⊢; exact hu
      | obj o i => exact hu
    · cases h with
      | slot s i =>
        have := hh s i rfl
        rw [hd_append_left _ _ _ _ _ _ (by omega), hd_append_left _ _ _ _ _ _ (by omega)]; rfl
      | obj o i => rfl
  refine ⟨by simp [hl], by simp; omega, fun s u y hs' hy => ?_, fun o cs ho => ?_, fun b hb => Env.retag_other (hC.fresh b hb), fun s u hs' r hr => ?_⟩
  · rcases getElem?_append_one hs' with ⟨hlt, hs1⟩ | ⟨rfl, rfl⟩
    · have hs2 : (slots ++ vs)[s]? = some u := by rw [List.getElem?_append_left hlt]; exact hs1
      have hy2 : (vals ++ ys)[s]? = some y := by rw [List.getElem?_append_left (hl ▸ hlt)] at hy ⊢; exact hy
      refine ⟨(hC.slot s u y hs2 hy2).1, fun i w z hw hz => hC.leaf hk c1 rfl hs2 hy2 hw hz (fun _ b hb => ⟨?_, rfl⟩) (fun _ b m hb => ⟨?_, rfl⟩)⟩
      · rw [Env.retag_home hb, f1 _ _ hlt]
      · rw [Env.retag_tail hb, f1 _ _ hlt]
    · have hy1 : y = xp := by rw [hl] at hy; simpa using hy.symm
      subst hy1
      refine ⟨hs, fun j w z hw hz => ?_⟩
      obtain ⟨k, i, v, x, e1, e2, e3, e4, e5⟩ := hp j w z hw hz
      have hs2 : (slots ++ vs)[slots.length + k]? = some v := by rw [List.getElem?_append_right (by omega), Nat.add_sub_cancel_left]; exact e1
      have hy2 : (vals ++ ys)[slots.length + k]? = some x := by rw [List.getElem?_append_right (by omega), hl, Nat.add_sub_cancel_left]; exact e2
      refine hC.leaf hk c1 rfl hs2 hy2 e3 e4 (fun ho b hb => ⟨?_, rfl⟩) (fun ho b m hb => ⟨?_, rfl⟩)
      · rw [Env.retag_home hb, e5 ho]
      · rw [Env.retag_tail hb, e5 ho]
  · exact hC.objKept c1 rfl ho (fun h => ⟨Env.retag_obj h, rfl⟩) (fun _ _ _ _ b hb => ⟨by rw [Env.retag_home hb, f2], rfl⟩) (fun _ _ _ _ b m hb => ⟨by rw [Env.retag_tail hb, f2], rfl⟩)
  · rcases getElem?_append_one hs' with ⟨hlt, hs1⟩ | ⟨rfl, rfl⟩
    · have := hC.refs s u (by rw [List.getElem?_append_left hlt]; exact hs1) r hr
      exact ⟨this.1, hk.bound this⟩
    · rw [V.refs, List.mem_flatMap] at hr
      obtain ⟨w, hw, hr⟩ := hr
      obtain ⟨v, hv, hwv⟩ := hpr w hw
      obtain ⟨k, hk'⟩ := List.mem_iff_getElem?.1 hv
      have := hC.refs (slots.length + k) v (by rw [List.getElem?_append_right (by omega), Nat.add_sub_cancel_left]; exact hk') r (by rw [V.refs, List.mem_flatMap]; exact ⟨w, hwv, hr⟩)
      exact ⟨this.1, hk.bound this⟩
end
section
variable {P : Program} {n base : Nat} {E E' : Env} {σ σ' : St} {hs : List V} {ts xs : List Value} {H H' : Array Go.Obj}
variable {callee : Callee} {o : Oper} {a : Act} {w : World} {next : Act → World → Prop} {Q : Exit → Act → World → Prop}
theorem CoreS.join {vs : List V} {ys : List Value} {p : V} {xp : Value} {f : Home → Home} (hC : CoreS n E σ (hs ++ vs) ts (xs ++ ys) H) (hhs : hs.length = xs.length) (hsp : Shape p xp)
    (hp : ∀ (j : Nat) (u : V) (y : Value), p.leaves[j]? = some u → (vleaves xp)[j]? = some y → ∃ k i v x, vs[k]? = some v ∧ ys[k]? = some x ∧ v.leaves[i]? = some u ∧ (vleaves x)[i]? = some y ∧ (u.own = true → f (.slot (n + hs.length + k) i) = .slot (n + hs.length) j))
    (hpr : ∀ u ∈ p.leaves, ∃ v ∈ vs, u ∈ v.leaves)
    (f1 : ∀ s i, s < n + hs.length → f (.slot s i) = .slot s i) (f2 : ∀ o i, f (.obj o i) = .obj o i) :
    CoreS n (E.retag f) σ (hs ++ [p]) ts (xs ++ [xp]) H := by
  refine ⟨hC.sl, hC.tl, ?_⟩
  have h := hC.core
  have hN : (σ.slots ++ hs).length = n + hs.length := by simp [hC.sl]
  rw [← List.append_assoc, ← List.append_assoc] at h ⊢
  refine h.join (by rw [hN]; omega) (by simp [hC.sl, hC.tl, hhs]) hsp ?_ hpr ?_ f2
  · rw [hN]; exact hp
  · rw [hN]; exact f1
def overHand (N off : Nat) : Home → Home
  | .slot s i => if s = N + 1 then .slot N (off + i) else .slot s i
  | h => h
theorem CoreS.overlay {cs : List V} {arr : Array Value} {v : V} {x : Value} {off : Nat} (hC : CoreS n E σ [.agg cs, v] ts [.agg arr, x] H) (hle : off + v.leaves.length ≤ cs.length) (hx : (vleaves x).length = v.leaves.length) :
    CoreS n (E.retag (overHand n off)) σ [.agg (splice cs off v.leaves)] ts [.agg (setsA arr off (vleaves x))] H := by
  have hlen : cs.length = arr.size := by
    have h1 := (hC.core.slot n (.agg cs) (.agg arr) (by rw [List.getElem?_append_right (by rw [hC.sl]; exact Nat.le_refl _), hC.sl]; simp) (by rw [List.getElem?_append_right (by rw [hC.tl]; exact Nat.le_refl _), hC.tl]; simp)).1
    obtain ⟨ys, h2, h3⟩ := h1
    cases h2; exact h3
  have := CoreS.join (hs := []) (xs := []) (vs := [.agg cs, v]) (ys := [.agg arr, x]) (p := .agg (splice cs off v.leaves)) (xp := .agg (setsA arr off (vleaves x))) (f := overHand n off) hC rfl
    ⟨_, rfl, by rw [splice_len hle, setsA_size]; exact hlen⟩ ?_ ?_ ?_ ?_
  · exact this
  · intro j u y hu hy
    change (splice cs off v.leaves)[j]? = some u at hu
    change (setsA arr off (vleaves x)).toList[j]? = some y at hy
    rw [Array.getElem?_toList] at hy
    rw [splice_get hle] at hu
    rw [setsA_get _ _ _ _ (by omega), hx] at hy
    split at hu
    · rename_i hj
      rw [if_pos hj] at hy
      refine ⟨1, j - off, v, x, rfl, rfl, hu, hy, fun _ => ?_⟩
      simp only [overHand, List.length_nil, Nat.add_zero, if_true]
      rw [show off + (j - off) = j by omega]
    · rename_i hj
      rw [if_neg hj] at hy
      refine ⟨0, j, .agg cs, .agg arr, rfl, rfl, hu, by simpa [vleaves] using hy, fun _ => ?_⟩
      simp [overHand]
  · intro u hu
    obtain ⟨i, hi⟩ := List.mem_iff_getElem?.1 hu
    change (splice cs off v.leaves)[i]? = some u at hi
    rw [splice_get hle] at hi
    split at hi
    · exact ⟨v, by simp, List.mem_of_getElem? hi⟩
    · exact ⟨.agg cs, by simp, List.mem_of_getElem? hi⟩
  · intro s i h; simp only [List.length_nil, Nat.add_zero] at h; simp only [overHand]; rw [if_neg (by omega)]
  · intro o i; rfl
theorem fold_sets (off : Nat) : ∀ (l : List Value) (k : Nat) (cs : Array Value), (l.zipIdx k).foldl (fun cs (c, j) => cs.setIfInBounds (off + j) c) cs = setsA cs (off + k) l
  | [], _, _ => rfl
  | v :: l, k, cs => by
    simp only [List.zipIdx_cons, List.foldl_cons, setsA]
    exact fold_sets off l (k + 1) _
theorem fill_cons {place : Nat → Option (Nat × Nat)} {cells : Array Value} {i off m : Nat} {v : Value} {rest : List (Nat × Value)} (hp : place i = some (off, m)) (h1 : v.cells.size = m) (h2 : off + m ≤ cells.size) :
    Instr.fill place cells ((i, v) :: rest) = Instr.fill place (setsA cells off v.cells.toList) rest := by
  rw [Instr.fill, hp]
  simp only [h1]
  rw [if_neg (by simp; omega)]
  congr 1
  rw [← Array.foldl_toList, Array.toList_zipIdx]
  exact fold_sets off v.cells.toList 0 cells
theorem buildP_sound {d : Option Nat} {place : Nat → Option (Nat × Nat)} {g : Nat × Operand → Option (Nat × Nat × Opd)} (hg : ∀ i x off m x', g (i, x) = some (off, m, x') → place i = some (off, m) ∧ ∃ t, opd P t x = some x') :
    ∀ (ps : List (Nat × Operand)) (ps' : List (Nat × Nat × Opd)) {E : Env} {σ : St} {cs : List V} {arr : Array Value}, ps.mapM g = some ps' → CoreS n E σ [.agg cs] a.tmps.toList [.agg arr] H → (buildP d ps' cs).run σ = some σ' →
    ∃ arr', Instr.fill place arr (ps.map fun (i, x) => (i, a.eval x)) = some arr' ∧ ∃ E1 σ1 cs', CoreS n E1 σ1 [.agg cs'] a.tmps.toList [.agg arr'] H ∧ Grow base E H E1 H ∧ (putO d (.agg cs') .ret).run σ1 = some σ'
  | [], ps', E, σ, cs, arr, hm, hC, hr => by
    simp at hm; subst hm
    exact ⟨arr, rfl, E, σ, cs, hC, Grow.refl _ _ _, hr⟩
  | (i, x) :: ps, ps', E, σ, cs, arr, hm, hC, hr => by
    rw [List.mapM_cons] at hm
    simp only [Option.bind_eq_bind, Option.pure_def] at hm
    obtain ⟨⟨off, m, x'⟩, h0, hm⟩ := Option.bind_eq_some_iff.1 hm
    obtain ⟨ps1, h1, hm⟩ := Option.bind_eq_some_iff.1 hm
    cases hm
    obtain ⟨hpl, t, hx⟩ := hg i x off m x' h0
    simp only [buildP] at hr
    obtain ⟨E1, σ1, v, hC1, hG1, _, hr, _⟩ := gMove_sound (base := base) (hs := [.agg cs]) (xs := [.agg arr]) _ hC (opd_ok a hx) hr
    rw [Prog.run_ite] at hr
    split at hr
    · rename_i hc
      obtain ⟨c1, c2, c3⟩ := hc
      obtain ⟨e1, e2, e3⟩ := here_cells (hand_rel (hs := [.agg cs]) (xs := [.agg arr]) hC1) c3
      have hC2 := CoreS.overlay (off := off) hC1 (by rw [← e1]; omega) (by rw [← e2, ← e3]; simp)
      rw [← e1, ← e2] at hC2
      obtain ⟨ys, hys, hlen⟩ := (hC1.core.slot n (.agg cs) (.agg arr) (by rw [List.getElem?_append_right (by rw [hC1.sl]; exact Nat.le_refl _), hC1.sl]; simp) (by rw [List.getElem?_append_right (by rw [hC1.tl]; exact Nat.le_refl _), hC1.tl]; simp)).1
      cases hys
      obtain ⟨arr', f1, E2, σ2, cs', f2, f3, f4⟩ := buildP_sound hg ps ps1 h1 hC2 hr
      refine ⟨arr', ?_, E2, σ2, cs', f2, (hG1.trans (Grow.retag _ _ _ _)).trans f3, f4⟩
      rw [List.map_cons, fill_cons hpl (by rw [e3, ← e1]; exact c1) (by omega)]
      exact f1
    · cases hr
theorem op_build {t : TypeId} {ps : Array (Nat × Operand)} {zs : List V} {parts : List (Nat × Nat × Opd)} (ho : o.op = .build t ps) (hz : zeroOf P t = some zs)
    (hp : (∃ fs pl, under P t = some (.struct fs) ∧ (fs.toList.mapM fun f => (P.info? f.type).map fun i => (f.offset, i.size)) = some pl ∧
        (ps.toList.mapM fun (i, x) => do let f ← fs[i]?; let (off, m) ← pl[i]?; pure (off, m, ← opd P f.type x)) = some parts) ∨
      (∃ len e m, under P t = some (.array len e) ∧ szOf P e = some m ∧ (ps.toList.mapM fun (i, x) => do pure (i * m, m, ← opd P e x)) = some parts)) (hC : CoreS n E σ [] a.tmps.toList [] w.heap)
    (hr : (opProg callee base o.dst (.build zs parts)).run σ = some σ') (K : NextOk n base E σ' a w next) : o.upon P a next Q ((execOp a.eval o).run P w) := by
  obtain ⟨inf, z, hi, hz1, h1, h2⟩ := zeroOf_ok hz
  have hcon : ConstOk (.agg zs) (.agg z.cells) := by
    unfold zeroOf at hz
    simp only [Option.bind_eq_bind] at hz
    obtain ⟨inf', hi', hz⟩ := Option.bind_eq_some_iff.1 hz
    obtain ⟨z', hz1', hz⟩ := Option.bind_eq_some_iff.1 hz
    obtain ⟨tys, _, hz⟩ := Option.bind_eq_some_iff.1 hz
    rw [hi] at hi'; cases hi'
    rw [hz1] at hz1'; cases hz1'
    exact aggConst hz
  have hC1 := hC.push (v := .agg zs) (x := .agg z.cells) (fun u hu => hcon.2.2 u hu) (hcon.1 _ _ _ _ _ _) (by rw [hcon.2.1]; intro r hr; cases hr)
  have hend : ∀ (place : Nat → Option (Nat × Nat)) (g : Nat × Operand → Option (Nat × Nat × Opd)), (∀ i x off m x', g (i, x) = some (off, m, x') → place i = some (off, m) ∧ ∃ t, opd P t x = some x') → ps.toList.mapM g = some parts →
      (∀ arr', Instr.fill place z.cells (ps.toList.map fun (i, x) => (i, a.eval x)) = some arr' → P.built t (ps.map fun (i, x) => (i, a.eval x)).toList = some arr') → o.upon P a next Q ((execOp a.eval o).run P w) := by
    intro place g hg hm hb
    obtain ⟨arr', f1, E2, σ2, cs', f2, f3, f4⟩ := buildP_sound (base := base) hg ps.toList parts hm hC1 hr
    refine value_end f2 f3 (WSame.refl _) f4 K ?_
    simp [execOp, ho, run_build w t _ arr' (hb arr' f1)]
  rcases hp with ⟨fs, pl, hu, hpl, hm⟩ | ⟨len, e, m, hu, hm', hm⟩
  · refine hend (pl.toArray[·]?) _ ?_ hm ?_
    · intro i x off m x' h
      simp only [Option.bind_eq_bind, Option.pure_def] at h
      obtain ⟨f, hf, h⟩ := Option.bind_eq_some_iff.1 h
      obtain ⟨⟨off', m'⟩, hf', h⟩ := Option.bind_eq_some_iff.1 h
      obtain ⟨x1, hx1, h⟩ := Option.bind_eq_some_iff.1 h
      cases h
      exact ⟨by simpa using hf', _, hx1⟩
    · intro arr' hf
      unfold under at hu
      simp only [Program.built, hi, hu, hz1, hpl]
      simpa using hf
  · refine hend (fun i => some (i * m, m)) _ ?_ hm ?_
    · intro i x off m1 x' h
      simp only [Option.bind_eq_bind, Option.pure_def] at h
      obtain ⟨x1, hx1, h⟩ := Option.bind_eq_some_iff.1 h
      cases h
      exact ⟨rfl, _, hx1⟩
    · intro arr' hf
      unfold under at hu
      simp only [szOf] at hm'
      obtain ⟨ie, hie, rfl⟩ := Option.map_eq_some_iff.1 hm'
      simp only [Program.built, hi, hu, hz1, hie]
      simpa using hf
end
end Go.Vq
namespace Go.Vq
section
variable {P : Program} {n base : Nat} {E E' : Env} {σ σ' : St} {hs : List V} {ts xs : List Value} {H H' : Array Go.Obj}
variable {callee : Callee} {o : Oper} {a : Act} {w : World} {next : Act → World → Prop} {Q : Exit → Act → World → Prop}
structure RowRel (imm : Nat → Nat → Prop) (H : Array Go.Obj) (sz : Nat) (es : List V) (arr : Array Value) : Prop where
  ok : ∀ e ∈ es, elemOk sz e
  cell : ∀ (i : Nat) (e : V) (j : Nat) (v : V), es[i]? = some e → e.cells[j]? = some v → ∃ x, arr[i * sz + j]? = some x ∧ RelI imm H v x
theorem RowRel.mono {imm imm' : Nat → Nat → Prop} {sz : Nat} {es : List V} {arr : Array Value} (h : RowRel imm H sz es arr) (hm : ∀ b i, imm b i → imm' b i ∧ cellAt H' b i = cellAt H b i) : RowRel imm' H' sz es arr :=
  ⟨h.ok, fun i e j v h1 h2 => let ⟨x, e1, e2⟩ := h.cell i e j v h1 h2; ⟨x, e1, e2.mono hm⟩⟩
theorem RowRel.set {imm : Nat → Nat → Prop} {sz i : Nat} {es : List V} {arr : Array Value} {v : V} {ys : List Value} (h : RowRel imm H sz es arr) (hv : elemOk sz v) (hys : ys.length = sz) (hi : i < es.length) (hsz : es.length * sz ≤ arr.size)
    (hc : ∀ (j : Nat) (u : V) (y : Value), v.cells[j]? = some u → ys[j]? = some y → RelI imm H u y) : RowRel imm H sz (es.set i v) (setsA arr (i * sz) ys) := by
  have hrow : ∀ k, k < es.length → k * sz + sz ≤ es.length * sz := by
    intro k hk
    have := Nat.mul_le_mul_right sz hk
    rw [Nat.succ_mul] at this; exact this
  refine ⟨fun e he => ?_, fun k e j u hk hj => ?_⟩
  · rcases List.mem_or_eq_of_mem_set he with he | rfl
    · exact h.ok e he
    · exact hv
  · have hfit := hrow i hi
    rw [setsA_get _ _ _ _ (by omega), hys]
    by_cases hki : k = i
    · subst hki
      rw [List.getElem?_set_self hi] at hk; cases hk
      have hjl := lt_of_getElem? hj
      rw [hv.1] at hjl
      rw [if_pos (by omega)]
      obtain ⟨y, hy⟩ := exists_getElem? (l := ys) (i := j) (by omega)
      exact ⟨y, by rw [Nat.add_sub_cancel_left]; exact hy, hc j u y hj hy⟩
    · rw [List.getElem?_set_ne (fun e => hki e.symm)] at hk
      have hjl := lt_of_getElem? hj
      rw [(h.ok e (List.mem_of_getElem? hk)).1] at hjl
      rw [if_neg]
      · exact h.cell k e j u hk hj
      · intro hcon
        rcases Nat.lt_or_ge k i with hlt | hge
        · have := Nat.mul_le_mul_right sz hlt
          rw [Nat.succ_mul] at this; omega
        · have := Nat.mul_le_mul_right sz (show i + 1 ≤ k by omega)
          rw [Nat.succ_mul] at this; omega
theorem CoreS.newRow (hC : CoreS n E σ hs ts xs H) {sz cap : Nat} {es : List V} {arr : Array Value} {T : TypeId} {f : Nat × Nat} (hcap : es.length ≤ cap) (hfit : cap * sz ≤ arr.size) (hf : open_ f arr.size) (hR : RowRel E.imm H sz es arr) :
    CoreS n (E.setTag H.size (.home (.slot (n + hs.length) 0))) σ (hs ++ [.xsl 0 sz es]) ts (xs ++ [.slice (some ⟨H.size, 0, none⟩) es.length cap]) (H.push (.cells arr T f)) := by
  refine hC.newBlock hcap hfit hf ?_
  have hm := (Grow.newBlock (base := 0) (E := E) (H := H) (τ := .home (.slot (n + hs.length) 0)) (x := .cells arr T f) hC.core.fresh).imm
  have hR' := hR.mono hm
  refine ⟨hR'.ok, fun i e j v h1 h2 => ?_⟩
  obtain ⟨x, e1, e2⟩ := hR'.cell i e j v h1 h2
  exact ⟨_, x, rfl, by rw [cellAt_pushed]; simpa using e1, e2⟩
theorem ImmV.elemOk {v : V} {x : Value} {sz : Nat} (h : ImmV E H v x) (hv : v.here = true) (hl : v.cells.length = sz) : elemOk sz v :=
  ⟨hl, fun u hu => by rw [(h.cellsOk hv).1] at hu; exact (inElem_leaf (h.elem u hu)).1⟩
theorem buildSliceP_sound {d : Option Nat} {sz : Nat} {e : TypeId} : ∀ (ps : List (Nat × Operand)) (ps' : List (Nat × Opd)) {E : Env} {σ : St} {es : List V} {arr : Array Value}, (ps.mapM fun (i, x) => do pure (i, ← opd P e x)) = some ps' → CoreS n E σ [] a.tmps.toList [] H → RowRel E.imm H sz es arr → es.length * sz = arr.size → (buildSliceP d sz ps' es).run σ = some σ' →
    ∃ arr', Instr.fill (fun i => some (i * sz, sz)) arr (ps.map fun (i, x) => (i, a.eval x)) = some arr' ∧ ∃ E1 σ1 es', CoreS n E1 σ1 [] a.tmps.toList [] H ∧ Grow base E H E1 H ∧ RowRel E1.imm H sz es' arr' ∧ es'.length = es.length ∧ arr'.size = arr.size ∧ (putO d (.xsl 0 sz es') .ret).run σ1 = some σ'
  | [], ps', E, σ, es, arr, hm, hC, hR, hsz, hr => by
    simp at hm; subst hm
    exact ⟨arr, rfl, E, σ, es, hC, Grow.refl _ _ _, hR, rfl, rfl, hr⟩
  | (i, x) :: ps, ps', E, σ, es, arr, hm, hC, hR, hsz, hr => by
    rw [List.mapM_cons] at hm
    simp only [Option.bind_eq_bind, Option.pure_def] at hm
    obtain ⟨⟨i', x'⟩, h0, hm⟩ := Option.bind_eq_some_iff.1 hm
    obtain ⟨x1, hx, h0⟩ := Option.bind_eq_some_iff.1 h0
    cases h0
    obtain ⟨ps1, h1, hm⟩ := Option.bind_eq_some_iff.1 hm
    cases hm
    simp only [buildSliceP] at hr
    obtain ⟨E1, σ1, v, hC1, hG1, _, hr, hI⟩ := gImm_sound (base := base) hC (opd_ok a hx) hr
    rw [Prog.run_ite] at hr
    split at hr
    · rename_i hc
      obtain ⟨c1, c2, c3⟩ := hc
      obtain ⟨e1, e2, e3, e4⟩ := hI.cellsOk c3
      have hvl : (a.eval x).cells.toList.length = sz := by rw [Array.length_toList, e3, ← e1]; exact c1
      have hrow : i * sz + sz ≤ es.length * sz := by
        have := Nat.mul_le_mul_right sz c2
        rw [Nat.succ_mul] at this; exact this
      have hR1 := (hR.mono hG1.imm).set (i := i) (ys := (a.eval x).cells.toList) (hI.elemOk c3 c1) hvl c2 (by omega) (fun j u y h2 h3 => hI.cells j u y (by rw [← e1]; exact h2) (by rw [← e2]; exact h3))
      obtain ⟨arr', f1, E2, σ2, es', f2, f3, f4, f5, f6, f7⟩ := buildSliceP_sound ps ps1 h1 hC1 hR1 (by rw [setsA_size, List.length_set]; exact hsz) hr
      refine ⟨arr', ?_, E2, σ2, es', f2, hG1.trans f3, f4, by rw [f5, List.length_set], by rw [f6, setsA_size], f7⟩
      rw [List.map_cons, fill_cons rfl (by rw [e3, ← e1]; exact c1) (by omega)]
      exact f1
    · cases hr
theorem op_buildSlice {t e : TypeId} {len sz : Nat} {ps : Array (Nat × Operand)} {zs : List V} {agg : Bool} {z0 : V} {parts : List (Nat × Opd)} (ho : o.op = .buildSlice t len ps) (ht : under P t = some (.slice e)) (hs : szOf P e = some sz)
    (hz : zeroOf P e = some zs) (hzl : zs.length = sz) (hsz : sz ≠ 0) (hbig : ¬ len * sz > 2 ^ 24) (hzero : ofCells agg (zs.map freeze1) = some z0) (hp : (ps.toList.mapM fun (i, x) => do pure (i, ← opd P e x)) = some parts) (hC : CoreS n E σ [] a.tmps.toList [] w.heap)
    (hr : (opProg callee base o.dst (.buildSlice sz (List.replicate len z0) parts)).run σ = some σ') (K : NextOk n base E σ' a w next) : o.upon P a next Q ((execOp a.eval o).run P w) := by
  obtain ⟨inf, z, hi, hz1, h1, h2⟩ := zeroOf_ok hz
  have hinf : inf.size = sz := by simp only [szOf, hi, Option.map_some, Option.some.injEq] at hs; exact hs
  obtain ⟨c1, c2⟩ := zeroElem hz hzero
  subst hzl
  have hR0 : RowRel E.imm w.heap zs.length (List.replicate len z0) (zrow z.cells (len * zs.length)) := by
    refine ⟨fun u hu => ?_, fun i u j v h3 h4 => ?_⟩
    · rw [(List.mem_replicate.1 hu).2]
      exact ⟨by rw [c1]; simp, c2⟩
    · have hil := lt_of_getElem? h3
      rw [List.length_replicate] at hil
      rw [List.getElem?_replicate, if_pos hil] at h3
      cases h3
      exact zeroRel hz hzero hi hz1 hil h4 _ _
  obtain ⟨arr', f1, E1, σ1, es', f2, f3, f4, f5, f6, f7⟩ := buildSliceP_sound (base := base) ps.toList parts hp hC hR0 (by rw [zrow_size, List.length_replicate]) hr
  rw [List.length_replicate] at f5
  rw [zrow_size] at f6
  have hC1 := f2.newRow (cap := len) (T := e) (f := (0, 0)) (by omega) (by omega) (open_00 _) f4
  rw [f5] at hC1
  refine value_end (w1 := { w with heap := w.heap.push (.cells arr' e (0, 0)) }) hC1 (f3.trans (Grow.newBlock f2.core.fresh)) ⟨rfl, rfl, rfl⟩ f7 K ?_
  simp only [execOp, ho, Instr.buildSlice, Sem.run_bind, Sem.run_pure, Result.andThen_ok, run_under ht, sizeOf, typeInfo, hi, hinf, run_program, zeroValue, hz1, Sem.run_ite]
  rw [if_neg hbig]
  have hps : (ps.map fun (i, x) => (i, a.eval x)).toList = ps.toList.map fun (i, x) => (i, a.eval x) := by simp
  by_cases h0 : len * zs.length = 0
  · rw [h0] at f1 ⊢
    have e0 : (Array.map (fun (x : Nat) => (#[] : Array Value)[x % (#[] : Array Value).size]!) (Array.range 0)) = zrow z.cells 0 := by
      rw [zrow, show Array.range 0 = #[] from rfl]; simp
    simp only [if_true, Sem.run_pure, Result.andThen_ok]
    rw [e0, hps, f1]
    simp [Go.newRow]
  · rw [if_neg h0]
    try simp only [Sem.run_bind, Sem.run_pure, Result.andThen_ok]
    have e0 : (Array.map (fun (x : Nat) => z.cells[x % z.cells.size]!) (Array.range (len * zs.length))) = zrow z.cells (len * zs.length) := rfl
    rw [e0, hps, f1]
    simp [Go.newRow]
end
end Go.Vq
namespace Go.Vq
section
variable {P : Program} {n base : Nat} {E E' : Env} {σ σ' : St} {hs : List V} {ts xs : List Value} {H H' : Array Go.Obj}
variable {callee : Callee} {o : Oper} {a : Act} {w : World} {next : Act → World → Prop} {Q : Exit → Act → World → Prop}
def capOk (v : V) : Prop :=
  (∃ o off, v = .ptr (.obj o off)) ∨ (∃ f cs, v = .func f cs) ∨ (∃ o, v = .map o) ∨ (∃ cs, v = .iptr cs) ∨ (v.here = true ∧ ∀ u ∈ v.leaves, u.inElem = true)
theorem capOk.relC {slots : List V} {objs : List (Option Obj)} {vals : List Value} {s : Nat} {v : V} {x : Value} (h : capOk v) (hS : SlotRel E slots objs vals H s v x) : RelC E objs H v x := by
  rcases h with ⟨o, off, rfl⟩ | ⟨f, cs, rfl⟩ | ⟨o, rfl⟩ | ⟨cs, rfl⟩ | ⟨h1, h2⟩
  · obtain ⟨_, hR⟩ := rel_leaf hS rfl (fun g => by simp)
    obtain ⟨e, hl⟩ := hR
    subst e; exact .ptr o off hl
  · obtain ⟨_, hR⟩ := rel_leaf hS rfl (fun g => by simp)
    exact hR
  · obtain ⟨_, hR⟩ := rel_leaf hS rfl (fun g => by simp)
    obtain ⟨e, hl⟩ := hR
    subst e; exact .map o hl
  · obtain ⟨_, hR⟩ := rel_leaf hS rfl (fun g => by simp)
    obtain ⟨ad, e, hs, h⟩ := hR
    subst e; exact .iptr cs ad hs h
  · by_cases hl : v.leaf = true
    · obtain ⟨_, hR⟩ := rel_leaf hS hl (by rintro g rfl; cases h1)
      exact .imm v x (inElem_relI hR (h2 v (by rw [leaves_leaf hl]; simp))) h2
    · cases v <;> first | (exact absurd rfl hl) | skip
      · rename_i cs
        obtain ⟨⟨ys, rfl, hlen⟩, hc⟩ := hS
        refine .imm _ _ (.agg cs ys hlen fun i u y hu hy => inElem_relI (hc i u y hu (by simpa [vleaves] using hy)) (h2 u (List.mem_of_getElem? hu))) h2
      · cases h1
theorem ImmV.slotRel {v : V} {x : Value} {s : Nat} {slots : List V} {objs : List (Option Obj)} {vals : List Value} (h : ImmV E H v x) : SlotRel E slots objs vals H s v x :=
  ⟨h.shape, fun i u y hu hy => (relI_rel (h.cells i u y hu hy) (inElem_leaf (h.elem u (List.mem_of_getElem? hu))).1).1 _ _ _ _⟩
theorem CoreS.pushImm {v : V} {x : Value} (hC : CoreS n E σ hs ts xs H) (h : ImmV E H v x) : CoreS n E σ (hs ++ [v]) ts (xs ++ [x]) H :=
  hC.push (fun u hu => (inElem_leaf (h.elem u hu)).2.2.1) h.slotRel (by
    intro r hr
    rw [V.refs, List.mem_flatMap] at hr
    obtain ⟨u, hu, hr⟩ := hr
    rw [(inElem_leaf (h.elem u hu)).2.1] at hr; cases hr)
theorem gMoves_sound (a : Act) : ∀ {as : List Operand} {os : List Opd} {k : List V → Prog} {E : Env} {σ : St} {hs : List V} {xs : List Value}, as.mapM opd0 = some os → CoreS n E σ hs a.tmps.toList xs H → (opProg.gMoves os k).run σ = some σ' →
    ∃ E1 σ1 vs, CoreS n E1 σ1 (hs ++ vs) a.tmps.toList (xs ++ as.map a.eval) H ∧ Grow base E H E1 H ∧ vs.length = as.length ∧ (∀ v ∈ vs, capOk v) ∧ (k vs).run σ1 = some σ'
  | [], os, k, E, σ, hs, xs, h, hC, hr => by
    simp at h; subst h
    exact ⟨E, σ, [], by simpa using hC, Grow.refl _ _ _, rfl, fun v h => (by cases h), hr⟩
  | a0 :: as, os, k, E, σ, hs, xs, h, hC, hr => by
    rw [List.mapM_cons] at h
    simp only [Option.bind_eq_bind, Option.pure_def] at h
    obtain ⟨o0, h0, h⟩ := Option.bind_eq_some_iff.1 h
    obtain ⟨os', h1, h⟩ := Option.bind_eq_some_iff.1 h
    cases h
    have hend : ∀ {E1 : Env} {σ1 : St} {v : V}, CoreS n E1 σ1 (hs ++ [v]) a.tmps.toList (xs ++ [a.eval a0]) H → Grow base E H E1 H → capOk v → (opProg.gMoves os' fun vs => k (v :: vs)).run σ1 = some σ' →
        ∃ E1 σ1 vs, CoreS n E1 σ1 (hs ++ vs) a.tmps.toList (xs ++ (a0 :: as).map a.eval) H ∧ Grow base E H E1 H ∧ vs.length = (a0 :: as).length ∧ (∀ v ∈ vs, capOk v) ∧ (k vs).run σ1 = some σ' := by
      intro E1 σ1 v hC1 hG hcap hr1
      obtain ⟨E2, σ2, vs, b1, b2, b3, b4, b5⟩ := gMoves_sound a h1 hC1 hr1
      refine ⟨E2, σ2, v :: vs, by simpa using b1, hG.trans b2, by simp [b3], fun u hu => ?_, b5⟩
      rcases List.mem_cons.1 hu with rfl | hu
      · exact hcap
      · exact b4 u hu
    have hrr := hr
    simp only [opProg.gMoves] at hrr
    obtain ⟨v, hr2, ⟨s, hS, hs'⟩, hrf, _, _⟩ := opd_rel (v := .nil) hC (opd0_ok a h0) hrr
    clear hr
    have himm : (gImm o0 fun v => if v.here = true then opProg.gMoves os' fun vs => k (v :: vs) else .fail).run σ = some σ' →
        ∃ E1 σ1 vs, CoreS n E1 σ1 (hs ++ vs) a.tmps.toList (xs ++ (a0 :: as).map a.eval) H ∧ Grow base E H E1 H ∧ vs.length = (a0 :: as).length ∧ (∀ v ∈ vs, capOk v) ∧ (k vs).run σ1 = some σ' := by
      intro hr3
      obtain ⟨E1, σ1, v, hC1, hG1, _, hr3, hI⟩ := gImm_sound (base := base) hC (opd0_ok a h0) hr3
      rw [Prog.run_ite] at hr3
      split at hr3
      · rename_i hh
        exact hend (hC1.pushImm hI) hG1 (.inr (.inr (.inr (.inr ⟨hh, hI.elem⟩)))) hr3
      · cases hr3
    have hleaf : ∀ {v : V}, v.leaf = true → v.own = false → SlotRel E (σ.slots ++ hs) σ.objs (a.tmps.toList ++ xs) H s v (a.eval a0) → (∀ g, v ≠ .gone g) → v.refs1 = [] → CoreS n E σ (hs ++ [v]) a.tmps.toList (xs ++ [a.eval a0]) H := by
      intro v hl ho hS hg hf
      obtain ⟨_, hR⟩ := rel_leaf hS hl hg
      exact hC.pushLeaf hl ho hR (by rw [hf]; intro r hr; cases hr)
    split at hr2
    · exact hend (hleaf rfl rfl hS (fun g => by simp) rfl) (Grow.refl _ _ _) (.inl ⟨_, _, rfl⟩) hr2
    · exact hend (hleaf rfl rfl hS (fun g => by simp) rfl) (Grow.refl _ _ _) (.inr (.inl ⟨_, _, rfl⟩)) hr2
    · exact hend (hleaf rfl rfl hS (fun g => by simp) rfl) (Grow.refl _ _ _) (.inr (.inr (.inl ⟨_, rfl⟩))) hr2
    · exact hend (hleaf rfl rfl hS (fun g => by simp) rfl) (Grow.refl _ _ _) (.inr (.inr (.inr (.inl ⟨_, rfl⟩)))) hr2
    · exact himm hr2
theorem op_makeFunc {f : FuncId} {first caps : Array Operand} {cs : List Opd} (ho : o.op = .makeFunc (.func f) first caps) (hf : first = #[]) (hx : caps.toList.mapM opd0 = some cs) (hC : CoreS n E σ [] a.tmps.toList [] w.heap)
    (hr : (opProg callee base o.dst (.makeFunc f cs)).run σ = some σ') (K : NextOk n base E σ' a w next) : o.upon P a next Q ((execOp a.eval o).run P w) := by
  obtain ⟨E1, σ1, vs, hC1, hG, hl, hcap, hr⟩ := gMoves_sound (base := base) a hx hC hr
  simp only [List.nil_append] at hC1
  have hrel : RelC E1 σ1.objs w.heap (.func f vs) (.func (.func f) #[] (caps.map a.eval)) := by
    refine .func f vs (caps.map a.eval) (by simp [hl]) fun i v x hv hx' => ?_
    have hx2 : (caps.toList.map a.eval)[i]? = some x := by simpa using hx'
    refine (hcap v (List.mem_of_getElem? hv)).relC (hC1.core.slot (n + i) v x ?_ ?_)
    · rw [List.getElem?_append_right (by rw [hC1.sl]; omega), hC1.sl, Nat.add_sub_cancel_left]; exact hv
    · rw [List.getElem?_append_right (by rw [hC1.tl]; omega), hC1.tl, Nat.add_sub_cancel_left]; exact hx2
  have hC2 : CoreS n E1 σ1 [] a.tmps.toList [] w.heap := CoreS.pops (hs := []) (xs := []) (vs := vs) (ys := caps.toList.map a.eval) vs.length rfl (by simp [hl]) (by simpa using hC1)
  refine value_end (hC2.pushLeaf (h := .slot 0 0) (v := .func f vs) (x := .func (.func f) #[] (caps.map a.eval)) rfl rfl hrel (by intro r hr; cases hr)) hG (WSame.refl _) hr K ?_
  simp [execOp, ho, hf, Instr.makeFunc]
theorem bytes_row {imm : Nat → Nat → Prop} (s : List UInt8) (l : List Value) : RowRel imm H 1 (bytesV s) (s.map (fun b => Value.int .u8 b.toNat) ++ l).toArray := by
  refine ⟨fun e he => ?_, fun i e j v h1 h2 => ?_⟩
  · obtain ⟨b, _, rfl⟩ := List.mem_map.1 he
    exact ⟨rfl, by intro u hu; simp [V.cells] at hu; subst hu; rfl⟩
  · rw [bytesV, List.getElem?_map] at h1
    obtain ⟨b, hb, rfl⟩ := Option.map_eq_some_iff.1 h1
    cases j with
    | zero =>
      simp [V.cells] at h2; subst h2
      have := lt_of_getElem? hb
      refine ⟨.int .u8 b.toNat, ?_, .int _ _⟩
      rw [List.getElem?_toArray, Nat.mul_one, Nat.add_zero, List.getElem?_append_left (by simpa using this), List.getElem?_map, hb]; rfl
    | succ j => simp [V.cells] at h2
theorem modify_pushed (H : Array Go.Obj) (x : Go.Obj) (f : Go.Obj → Go.Obj) : (H.push x).modify H.size f = H.push (f x) := by
  apply Array.ext
  · simp
  · intro i h1 h2
    rw [Array.getElem_modify]
    simp only [Array.getElem_push]
    by_cases hi : i < H.size
    · have : H.size ≠ i := by omega
      simp [hi, this]
    · have : H.size = i := by simp at h2; omega
      simp [hi, this]
theorem run_mark_new (w : World) (arr : Array Value) (T : TypeId) : (markStringish ⟨w.heap.size, 0, none⟩).run P (w.alloc (.cells arr T)) = .ok () { w with heap := w.heap.push (.cells arr T (arr.size, arr.size + 1)) } := by
  have h1 : (w.alloc (.cells arr T)).shape? w.heap.size = some (T, arr.size) := by simp only [World.shape?, heap_alloc_new]
  simp only [markStringish, Sem.run_bind, run_shape, h1, Result.andThen_ok, run_freeze]
  simp only [World.freeze, World.alloc, modify_pushed]
  simp
theorem op_convBytes {t t' e : TypeId} {x : Operand} {x' : Opd} (ho : o.op = .convert t t' x) (h1 : under P t = some .string) (h2 : under P t' = some (.slice e)) (h3 : under P e = some (.int .u8)) (hx : opd0 x = some x') (hC : CoreS n E σ [] a.tmps.toList [] w.heap)
    (hr : (opProg callee base o.dst (.conv .bytes x')).run σ = some σ') (K : NextOk n base E σ' a w next) : o.upon P a next Q ((execOp a.eval o).run P w) := by
  obtain ⟨u, hr, ⟨s, hS, hs'⟩, hrest⟩ := opd_rel (v := .nil) hC (opd0_ok a hx) hr
  clear hrest hs'
  cases u <;> first | (cases hr; done) | skip
  rename_i b
  have e0 := slot_toVal (y := .string ⟨b.toArray⟩) hS rfl
  generalize hcap : (Question.appendCap b.length 0 e).cut (w.tape w.drawn (.appendCap b.length 0 e)) = cap
  have hge : b.length ≤ cap := by rw [← hcap]; simp [Question.cut]
  have hC1 := hC.newRow (cap := cap) (es := bytesV b) (arr := (b.map (fun b => Value.int .u8 b.toNat) ++ List.replicate (cap - b.length) (Value.int .u8 0)).toArray) (T := e) (f := (cap, cap + 1)) (by simpa [bytesV] using hge) (by simp; omega) (⟨by simp, by intro i hi; simp at hi; simp only; omega⟩) (bytes_row b _)
  refine value_end (w1 := { w.drew with heap := w.heap.push (.cells (b.map (fun b => Value.int .u8 b.toNat) ++ List.replicate (cap - b.length) (Value.int .u8 0)).toArray e (cap, cap + 1)) }) hC1 (Grow.newBlock hC.core.fresh) ⟨rfl, rfl, rfl⟩ hr K ?_
  have hsz : (⟨b.toArray⟩ : ByteArray).size = b.length := size_mk b
  have hm := run_mark_new (P := P) w.drew ((b.map fun b => Value.int .u8 b.toNat).toArray ++ Array.replicate (cap - b.length) (Value.int .u8 0)) e
  have hsz2 : ((b.map fun b => Value.int .u8 b.toNat).toArray ++ Array.replicate (cap - b.length) (Value.int .u8 0)).size = cap := by simp; omega
  rw [hsz2] at hm
  change (markStringish ⟨w.heap.size, 0, none⟩).run P _ = _ at hm
  simp [execOp, ho, e0, convert, run_under h1, run_under h2, run_under h3, Conv.stringToBytes, Question.forced, hsz, hcap, Go.newRow, bytesV]
  rw [hm]
  simp
  have e1 : ((b.map fun b => Value.int .u8 b.toNat).toArray ++ Array.replicate (cap - b.length) (Value.int .u8 0)) = (b.map (fun b => Value.int .u8 b.toNat) ++ List.replicate (cap - b.length) (Value.int .u8 0)).toArray := by apply Array.ext'; simp
  rw [e1]
  rfl
end
end Go.Vq
