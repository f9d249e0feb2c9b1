/- A machine of values and its tie to the model, and runs of it: part 6 of 14 (no law of Go is stated here). -/
import Derived.Test.YtigbpkocmklbpaaF5
set_option linter.unusedVariables false
set_option linter.unusedSimpArgs false
set_option linter.unusedSectionVars false
namespace Go.Vq
section
variable {n N base : Nat} {E E2 : Env} {slots : List V} {objs objs2 objs3 : List (Option Obj)} {vals : List Value} {H H2 : Array Go.Obj} {ids all : List Nat}
structure BackObjs (ids all : List Nat) (objs objs2 objs3 : List (Option Obj)) : Prop where
  nd : all.Nodup
  pre : ∀ (k o : Nat), ids[k]? = some o → all[k]? = some o
  len : all.length = objs2.length
  told : ∀ (k o : Nat), all[k]? = some o → ∃ cs2 cr cs3, objs2[k]? = some (some (.cells cs2)) ∧ objs3[o]? = some (some (.cells cs3)) ∧ rens (all[·]?) (cs2.map zero1) = some cr ∧
    ((k < ids.length ∧ ∃ cs, objs[o]? = some (some (.cells cs)) ∧ regens cs cr = some cs3 ∧ cs3.length = cs.length) ∨ (ids.length ≤ k ∧ objs[o]? = some none ∧ cs3 = cr))
  other : ∀ o, o ∉ all → objs3[o]? = objs[o]?
  zero : ∀ (k : Nat) (cs : List V), objs2[k]? = some (some (.cells cs)) → ∀ u ∈ cs, zero1 u = u
theorem BackObjs.addr (hB : BackObjs ids all objs objs2 objs3) {E1 : Env} {k o : Nat} (h : all[k]? = some o) : (E.back E1 E2 all N).addr o = E2.addr k := by
  simp only [Env.back, get_findIdx hB.nd h]
theorem BackObjs.addr_old (hB : BackObjs ids all objs objs2 objs3) (hG : Grow ids.length (E.sub ids N) H E2 H2) {o : Nat} (h : alive objs o) : (E.back (E.sub ids N) E2 all N).addr o = E.addr o := by
  by_cases ho : ∃ k : Nat, all[k]? = some o
  · obtain ⟨k, hk⟩ := ho
    obtain ⟨cs2, cr, cs3, _, _, _, h1 | ⟨_, h2, _⟩⟩ := hB.told k o hk
    · rw [hB.addr hk, hG.addr k h1.1]
      have hlt := h1.1
      obtain ⟨o', ho'⟩ := exists_getElem? (l := ids) (i := k) hlt
      have := hB.pre k o' ho'
      rw [hk] at this; cases this
      simp only [Env.sub, List.getD_eq_getElem?_getD, ho', Option.getD_some]
    · obtain ⟨y, hy⟩ := h
      rw [h2] at hy; cases hy
  · have : findIdx all o = none := by
      cases hf : findIdx all o with
      | none => rfl
      | some k => exact absurd ⟨k, findIdx_get hf⟩ ho
    simp only [Env.back, this]
theorem BackObjs.alive_old (hB : BackObjs ids all objs objs2 objs3) {o : Nat} (h : alive objs o) : alive objs3 o := by
  by_cases ho : ∃ k : Nat, all[k]? = some o
  · obtain ⟨k, hk⟩ := ho
    obtain ⟨cs2, cr, cs3, _, h1, _⟩ := hB.told k o hk
    exact ⟨_, h1⟩
  · have := hB.other o (fun hm => by obtain ⟨k, hk⟩ := List.mem_iff_getElem?.1 hm; exact ho ⟨k, hk⟩)
    obtain ⟨y, hy⟩ := h
    exact ⟨y, this.trans hy⟩
theorem not_handed (hB : BackObjs ids all objs objs2 objs3) {o : Nat} (ho : ¬ ∃ k : Nat, k < ids.length ∧ all[k]? = some o) : findIdx ids o = none := by
  cases hf : findIdx ids o with
  | none => rfl
  | some k =>
    have := findIdx_get hf
    exact absurd ⟨k, lt_of_getElem? this, hB.pre k o this⟩ ho
theorem back_homes {r : V} {x : Value} (hB : BackObjs ids all objs objs2 objs3) (hC : Core n E slots objs vals H) (hG : Grow ids.length (E.sub ids slots.length) H E2 H2) :
    HomesKept n E slots objs vals H (E.back (E.sub ids slots.length) E2 all slots.length) (slots ++ [r]) objs3 (vals ++ [x]) H2 := by
  intro h u hh hu hp
  cases h with
  | slot s i =>
    have hs := hh s i rfl
    have hr := hC.real
    have hl := hC.len
    exact ⟨u, by rw [ct_append_left _ _ _ _ _ (by omega)]; exact hu, Nat.le_refl _, .inl ⟨rfl, by rw [hd_append_left _ _ _ _ _ _ (by omega)]; rfl⟩⟩
  | obj o i =>
    simp only [ct] at hu
    split at hu
    · rename_i cs ho
      by_cases hk : ∃ k : Nat, k < ids.length ∧ all[k]? = some o
      · obtain ⟨k, hkl, hk⟩ := hk
        obtain ⟨cs2, cr, cs3, b1, b2, b3, ⟨_, cs', c1, c2, c3⟩ | ⟨c1, _⟩⟩ := hB.told k o hk
        · rw [ho] at c1; cases c1
          obtain ⟨r1, r2, r3⟩ := regens_some _ _ _ c2
          have hil := lt_of_getElem? hu
          obtain ⟨w0, hw0⟩ := exists_getElem? (l := cr) (i := i) (by omega)
          obtain ⟨w, w1, w2⟩ := r2 i w0 hw0
          rw [getD_of_getElem? hu] at w2
          have := regen1_next w2 hp
          exact ⟨w, by simp only [ct, b2]; exact w1, this.1, .inr this.2⟩
        · omega
      · have hal : alive objs o := ⟨_, ho⟩
        have hoth : objs3[o]? = objs[o]? := by
          by_cases hm : o ∈ all
          · obtain ⟨k, hk'⟩ := List.mem_iff_getElem?.1 hm
            obtain ⟨cs2, cr, cs3, b1, b2, b3, ⟨c0, _⟩ | ⟨_, c1, _⟩⟩ := hB.told k o hk'
            · exact absurd ⟨k, c0, hk'⟩ hk
            · rw [ho] at c1; cases c1
          · exact hB.other o hm
        refine ⟨u, by simp only [ct, hoth, ho]; exact hu, Nat.le_refl _, .inl ⟨rfl, ?_⟩⟩
        obtain ⟨arr, T, f, g1, g2, _⟩ := hC.obj o cs ho
        have hb := back_old (all := all) hG g2 (lt_of_getElem?' g1) (.inl (by simp only [subTag, not_handed hB hk])) (fun _ h => by simp only [subTag, not_handed hB hk] at h; cases h)
        simp only [hd, hB.addr_old hG hal, cellAt, hb.2]
    · cases hu
theorem Core.back {r r' r2 : V} {x : Value} (hC : Core n E slots objs vals H) (hB : BackObjs ids all objs objs2 objs3) (hO : Core 0 E2 [r] objs2 [x] H2) (hG : Grow ids.length (E.sub ids slots.length) H E2 H2)
    (hr : V.ren (all[·]?) r = some r') (hr2 : r2 = r' ∨ ∃ h g g' sz i off, r' = .ptr (.elem h g sz i off) ∧ r2 = .ptr (.elem h g' sz i off) ∧ ∃ w, ct slots objs3 h = some w ∧ g' < w.nextg) :
    Core n (E.back (E.sub ids slots.length) E2 all slots.length) (slots ++ [r2]) objs3 (vals ++ [x]) H2 := by
  have hl := hC.len
  have hk := back_homes (r := r2) (x := x) hB hC hG
  have c1 := fun b i => back_imm1 (all := all) hG b i
  have hSr := hO.slot 0 r x rfl rfl
  have ha : ∀ k o, all[k]? = some o → (E.back (E.sub ids slots.length) E2 all slots.length).addr o = E2.addr k ∧ alive objs3 o := by
    intro k o h
    obtain ⟨cs2, cr, cs3, _, b2, _⟩ := hB.told k o h
    exact ⟨hB.addr h, _, b2⟩
  have hown : ∀ b h, (∀ s i, h = .slot s i → s < slots.length) → (∀ o i, h = .obj o i → findIdx ids o = none) → b < H.size → (E.tag b = .home h → (E.back (E.sub ids slots.length) E2 all slots.length).tag b = .home h ∧ H2[b]? = H[b]?) ∧
      ∀ m, E.tag b = .tail h m → (E.back (E.sub ids slots.length) E2 all slots.length).tag b = .tail h m ∧ H2[b]? = H[b]? := by
    intro b h h1 h2 hb
    cases h with
    | slot s i =>
      have hs := h1 s i rfl
      refine ⟨fun ht => back_old hG ht hb (.inl ?_) (fun _ h => ?_), fun m ht => back_old hG ht hb (.inr (.inr ⟨m, ?_⟩)) (fun _ h => ?_)⟩
      · simp only [subTag]; rw [if_neg (by omega)]
      · simp only [subTag] at h; rw [if_neg (by omega)] at h; cases h
      · simp only [subTag]; rw [if_neg (by omega)]
      · simp only [subTag] at h; rw [if_neg (by omega)] at h; cases h
    | obj o i =>
      have hf := h2 o i rfl
      refine ⟨fun ht => back_old hG ht hb (.inl ?_) (fun _ h => ?_), fun m ht => back_old hG ht hb (.inr (.inr ⟨m, ?_⟩)) (fun _ h => ?_)⟩
      · simp only [subTag, hf]
      · simp only [subTag, hf] at h; cases h
      · simp only [subTag, hf]
      · simp only [subTag, hf] at h; cases h
  have hbnd : ∀ b, E.tag b ≠ .other → b < H.size := by
    intro b hb
    rcases Nat.lt_or_ge b H.size with h | h
    · exact h
    · exact absurd (hC.fresh b h) hb
  have hcell : ∀ (k o : Nat), all[k]? = some o → ∀ cs2 cr : List V, objs2[k]? = some (some (.cells cs2)) → rens (all[·]?) (cs2.map zero1) = some cr → ∀ (i : Nat) (u : V) (arr : Array Value) (y : Value), cr[i]? = some u → arr[i]? = some y →
      (∀ (i : Nat) (u : V) (y : Value), cs2[i]? = some u → arr[i]? = some y → RelV E2 [r] objs2 [x] H2 (.obj k i) u y) → (∀ u ∈ cs2, u.inObj = true) →
      RelV (E.back (E.sub ids slots.length) E2 all slots.length) (slots ++ [r2]) objs3 (vals ++ [x]) H2 (.obj o i) u y ∧ u.inObj = true := by
    intro k o hko cs2 cr h1 h2 i u arr y hu hy h3 h4
    obtain ⟨q1, q2⟩ := rens_get h2
    rw [List.length_map] at q1
    obtain ⟨u2, hu2⟩ := exists_getElem? (l := cs2) (i := i) (by have := lt_of_getElem? hu; omega)
    have hren := q2 i (zero1 u2) u (by rw [List.getElem?_map, hu2]; rfl) hu
    have hio := h4 u2 (List.mem_of_getElem? hu2)
    refine ⟨(zero1_rel (h3 i u2 y hu2 hy)).rename (fun b i h => back_imm2 hG h) (fun o k h => ha o k h) hren (fun o j g sz i off e => ?_) (fun _ b => ⟨fun hb => ?_, fun m hb => ?_⟩), ren_inObj hren (by rw [zero1_leaf.2.2]; exact hio)⟩
    · rw [← zero1_leaf.2.2, e] at hio; simp [V.inObj] at hio
    · simp only [Env.back, hb, backTag, hko]
    · simp only [Env.back, hb, backTag, hko]
  refine ⟨by simp [hl], by simp; have := hC.real; omega, fun s v y hs hy => ?_, fun o cs3 ho => ?_, fun b hb => ?_, fun s v hs q hq => ?_⟩
  · rcases getElem?_append_one hs with ⟨hlt, hs1⟩ | ⟨rfl, rfl⟩
    · have hy1 : vals[s]? = some y := by rw [List.getElem?_append_left (hl ▸ hlt)] at hy; exact hy
      refine ⟨(hC.slot s v y hs1 hy1).1, fun i u z hu hz => ?_⟩
      have hR := (hC.slot s v y hs1 hy1).2 i u z hu hz
      refine hR.move c1 (fun _ b hb => ?_) (fun _ b m hb => ?_) (fun o _ h => ⟨hB.addr_old hG h, hB.alive_old h⟩) (fun o _ _ _ h => ⟨hB.addr_old hG h, hB.alive_old h⟩) fun q hq sz hvl => ?_
      · exact (hown b _ (fun s' i' e => by cases e; exact hlt) (fun o i e => by cases e) (hbnd b (by rw [hb]; simp))).1 hb
      · exact (hown b _ (fun s' i' e => by cases e; exact hlt) (fun o i e => by cases e) (hbnd b (by rw [hb]; simp))).2 m hb
      · exact hk.c4 (hC.refs s v hs1 q (mem_refs hu hq)) sz hvl
    · have hy1 : y = x := by rw [hl] at hy; simpa using hy.symm
      subst hy1
      have hshape : Shape r' y := shape_ren hr hSr.1
      obtain ⟨l1, l2⟩ := ren_leaves hSr.formed hr
      obtain ⟨q1, q2⟩ := rens_get l1
      have hvalid : ∀ (k o j g g' sz i off : Nat), all[k]? = some o → V.ptr (.elem (.obj k j) g sz i off) ∈ r.leaves → valid (slots ++ [v]) objs3 (.obj o j) g' sz → valid [r] objs2 (.obj k j) g sz := by
        intro k o j g g' sz i off hko hm hvl
        obtain ⟨w, hw, hgen⟩ := hvl
        obtain ⟨cs2, cr, cs3, b1, b2, b3, hcase⟩ := hB.told k o hko
        simp only [ct, b2] at hw
        obtain ⟨q3, q4⟩ := rens_get b3
        rw [List.length_map] at q3
        have hrf := hO.refs 0 r rfl (.obj k j, g) (by rw [V.refs, List.mem_flatMap]; exact ⟨_, hm, by simp [V.refs1]⟩)
        obtain ⟨u2, hu2, hg2⟩ := hrf.2
        simp only [ct, b1] at hu2
        have hz := hB.zero k cs2 b1 u2 (List.mem_of_getElem? hu2)
        obtain ⟨u3, hu3⟩ := exists_getElem? (l := cr) (i := j) (by have := lt_of_getElem? hu2; omega)
        have hren := q4 j (zero1 u2) u3 (by rw [List.getElem?_map, hu2]; rfl) hu3
        rw [hz] at hren
        have hgen3 : ∃ g3, u3.gen? = some (g3, sz) := by
          rcases hcase with ⟨_, cs, c1, c2, _⟩ | ⟨_, _, rfl⟩
          · obtain ⟨r1, r2, _⟩ := regens_some _ _ _ c2
            obtain ⟨w', w1, w2⟩ := r2 j u3 hu3
            rw [hw] at w1; cases w1
            clear hren
            cases u3 <;> simp only [regen1] at w2 <;> first
              | (cases w2; simp only [V.gen?, Option.some.injEq, Prod.mk.injEq] at hgen; exact ⟨_, by rw [← hgen.2]; rfl⟩)
              | (cases w2; simp [V.gen?] at hgen; done)
              | skip
            all_goals (split at w2 <;> first | (cases w2; done) | (cases w2; simp [V.gen?] at hgen; done) | skip)
            all_goals (have := ren_inObj (q4 j (zero1 u2) _ (by rw [List.getElem?_map, hu2]; rfl) hu3) (by rw [zero1_leaf.2.2]; obtain ⟨_, _, _, _, _, _, _, _, hin⟩ := hO.obj k cs2 b1; exact hin u2 (List.mem_of_getElem? hu2)); simp [V.inObj] at this)
          · rw [hw] at hu3; cases hu3; exact ⟨_, hgen⟩
        obtain ⟨g3, hgen3⟩ := hgen3
        refine ⟨u2, by simp only [ct, b1]; exact hu2, ?_⟩
        cases u2 <;> simp only [V.ren, Option.some.injEq, reduceCtorEq, Option.map_eq_some_iff] at hren <;> first
          | (subst hren; simp [V.gen?] at hgen3; done)
          | (obtain ⟨_, _, rfl⟩ := hren; simp [V.gen?] at hgen3; done)
          | skip
        all_goals
          simp only [zero1, V.xsl.injEq, V.isl.injEq, V.fsl.injEq, true_and, and_true] at hz
          subst hren
          simp only [V.nextg] at hg2
          simp only [V.gen?, Option.some.injEq, Prod.mk.injEq] at hgen3 ⊢
          omega
      have hleaf : ∀ (i : Nat) (u' : V) (z : Value), r'.leaves[i]? = some u' → (vleaves y)[i]? = some z → RelV (E.back (E.sub ids slots.length) E2 all slots.length) (slots ++ [v]) objs3 (vals ++ [y]) H2 (.slot slots.length i) u' z := by
        intro i u' z hu' hz
        obtain ⟨u, hu⟩ := exists_getElem? (l := r.leaves) (i := i) (by have := lt_of_getElem? hu'; omega)
        refine (hSr.2 i u z hu hz).rename (fun b i h => back_imm2 hG h) (fun o k h => ha o k h) (q2 i u u' hu hu') (fun o j g sz i off e k hk hvl => ?_) (fun _ b => ⟨fun hb => ?_, fun m hb => ?_⟩)
        · subst e; exact hvalid o k j g 0 sz i off hk (List.mem_of_getElem? hu) hvl
        · simp only [Env.back, hb, backTag, if_true]
        · simp only [Env.back, hb, backTag, if_true]
      rcases hr2 with rfl | ⟨h, g, g', sz, i, off, rfl, rfl, _⟩
      · exact ⟨hshape, hleaf⟩
      · refine ⟨shape_leaf rfl (leaf_shape (v := .ptr (.elem h g sz i off)) rfl (fun g => by simp) hshape), fun j u z hu hz => ?_⟩
        cases j with
        | succ j => simp [V.leaves] at hu
        | zero =>
          simp only [V.leaves, List.getElem?_cons_zero, Option.some.injEq] at hu
          subst hu
          obtain ⟨u, hu⟩ := exists_getElem? (l := r.leaves) (i := 0) (by rw [← q1]; simp [V.leaves])
          have hru := q2 0 u _ hu rfl
          cases u <;> simp only [V.ren, Option.some.injEq, reduceCtorEq, Option.map_eq_some_iff] at hru <;> first
            | (obtain ⟨_, _, h⟩ := hru; cases h; done)
            | skip
          obtain ⟨rr, hrr, e⟩ := hru
          cases e
          rename_i rf
          cases rf with
          | obj o off' => simp only [Ref.ren, Option.map_eq_some_iff] at hrr; obtain ⟨_, _, e⟩ := hrr; cases e
          | elem hh g0 sz0 i0 off0 =>
            simp only [Ref.ren, Option.map_eq_some_iff] at hrr
            obtain ⟨h2, hk2, e⟩ := hrr
            cases e
            cases hh with
            | slot s j => cases hk2
            | obj k j =>
              simp only [Home.ren, Option.map_eq_some_iff] at hk2
              obtain ⟨o, hko, rfl⟩ := hk2
              obtain ⟨ad', e0, hR⟩ := hSr.2 0 _ z hu hz
              refine ⟨ad', e0, fun hvl => ?_⟩
              obtain ⟨ad, l, c, e1, e2⟩ := hR (hvalid k o j g0 g' sz i off hko (List.mem_of_getElem? hu) hvl)
              refine ⟨ad, l, c, ?_, e2⟩
              simp only [hd, (ha k o hko).1]; exact e1
  · by_cases hm : ∃ k : Nat, all[k]? = some o
    · obtain ⟨k, hko⟩ := hm
      obtain ⟨cs2, cr, cs3', b1, b2, b3, hcase⟩ := hB.told k o hko
      rw [ho] at b2; cases b2
      obtain ⟨arr, T, f, d1, d2, d3, d4, d5, d6⟩ := hO.obj k cs2 b1
      have hcl := (rens_get b3).1
      rw [List.length_map] at hcl
      have htag : (E.back (E.sub ids slots.length) E2 all slots.length).tag (E2.addr k) = .obj o := by simp only [Env.back, d2, backTag, hko]
      rw [(ha k o hko).1]
      rcases hcase with ⟨_, cs, c1, c2, c3⟩ | ⟨_, _, rfl⟩
      · obtain ⟨r1, r2, _⟩ := regens_some _ _ _ c2
        refine ⟨arr, T, f, d1, htag, by rw [d3, r1, hcl], d4, fun i w z hw hz => ?_, fun w hw => ?_⟩
        · obtain ⟨u, hu⟩ := exists_getElem? (l := cr) (i := i) (by have := lt_of_getElem? hw; omega)
          obtain ⟨w', w1, w2⟩ := r2 i u hu
          rw [hw] at w1; cases w1
          exact regen1_rel w2 (hcell k o hko cs2 cr b1 b3 i u arr z hu hz d5 d6).1
        · obtain ⟨i, hi⟩ := List.mem_iff_getElem?.1 hw
          obtain ⟨u, hu⟩ := exists_getElem? (l := cr) (i := i) (by have := lt_of_getElem? hi; omega)
          obtain ⟨w', w1, w2⟩ := r2 i u hu
          rw [hi] at w1; cases w1
          obtain ⟨z, hz⟩ : ∃ z, arr[i]? = some z := ⟨arr[i]'(by have := lt_of_getElem? hu; omega), Array.getElem?_eq_getElem _⟩
          exact regen1_inObj w2 (hcell k o hko cs2 cr b1 b3 i u arr z hu hz d5 d6).2
      · refine ⟨arr, T, f, d1, htag, by rw [d3, hcl], d4, fun i w z hw hz => (hcell k o hko cs2 cs3 b1 b3 i w arr z hw hz d5 d6).1, fun w hw => ?_⟩
        obtain ⟨i, hi⟩ := List.mem_iff_getElem?.1 hw
        obtain ⟨z, hz⟩ : ∃ z, arr[i]? = some z := ⟨arr[i]'(by have := lt_of_getElem? hi; omega), Array.getElem?_eq_getElem _⟩
        exact (hcell k o hko cs2 cs3 b1 b3 i w arr z hi hz d5 d6).2
    · have hoth := hB.other o (fun h => by obtain ⟨k, hk'⟩ := List.mem_iff_getElem?.1 h; exact hm ⟨k, hk'⟩)
      rw [hoth] at ho
      obtain ⟨arr, T, f, d1, d2, d3, d4, d5, d6⟩ := hC.obj o cs3 ho
      have hf : findIdx ids o = none := not_handed hB (fun ⟨k, _, hk'⟩ => hm ⟨k, hk'⟩)
      have hb := back_old (all := all) hG d2 (lt_of_getElem?' d1) (.inl (by simp only [subTag, hf])) (fun _ h => by simp only [subTag, hf] at h; cases h)
      rw [hB.addr_old hG ⟨_, ho⟩]
      refine ⟨arr, T, f, hb.2.trans d1, hb.1, d3, d4, fun i u z hu hz => ?_, d6⟩
      refine (d5 i u z hu hz).move c1 (fun _ b hb => ?_) (fun _ b m hb => ?_) (fun o _ h => ⟨hB.addr_old hG h, hB.alive_old h⟩) (fun o _ _ _ h => ⟨hB.addr_old hG h, hB.alive_old h⟩) fun q hq => ?_
      · exact (hown b _ (fun s' i' e => by cases e) (fun o i e => by cases e; exact hf) (hbnd b (by rw [hb]; simp))).1 hb
      · exact (hown b _ (fun s' i' e => by cases e) (fun o i e => by cases e; exact hf) (hbnd b (by rw [hb]; simp))).2 m hb
      · rw [V.inObj_refs1 (d6 u (List.mem_of_getElem? hu))] at hq; cases hq
  · have h1 := hC.fresh b (Nat.le_trans hG.size hb)
    simp only [Env.back, hO.fresh b hb, backTag, Env.sub, h1, subTag]
  · rcases getElem?_append_one hs with ⟨hlt, hs1⟩ | ⟨rfl, rfl⟩
    · have := hC.refs s v hs1 q hq
      exact ⟨this.1, hk.bound this⟩
    · obtain ⟨l1, l2⟩ := ren_leaves hSr.formed hr
      obtain ⟨q1, q2⟩ := rens_get l1
      have hgen : ∀ q ∈ r'.refs, (∃ o j, q.1 = .obj o j) ∧ ∃ w, ct slots objs3 q.1 = some w ∧ q.2 < w.nextg := by
        intro q hq
        rw [V.refs, List.mem_flatMap] at hq
        obtain ⟨u', hu', hq⟩ := hq
        obtain ⟨i, hi⟩ := List.mem_iff_getElem?.1 hu'
        obtain ⟨u, hu⟩ := exists_getElem? (l := r.leaves) (i := i) (by have := lt_of_getElem? hi; omega)
        have hru := q2 i u u' hu hi
        cases u <;> simp only [V.ren, Option.some.injEq, reduceCtorEq, Option.map_eq_some_iff] at hru <;> first
          | (subst hru; simp [V.refs1] at hq; done)
          | (obtain ⟨_, _, rfl⟩ := hru; simp [V.refs1] at hq; done)
          | skip
        rename_i rr
        obtain ⟨rr', hr', rfl⟩ := hru
        cases rr with
        | obj o off => simp only [Ref.ren, Option.map_eq_some_iff] at hr'; obtain ⟨kk, _, rfl⟩ := hr'; simp [V.refs1] at hq
        | elem hh g sz j off =>
          simp only [Ref.ren, Option.map_eq_some_iff] at hr'
          obtain ⟨h2, hk2, rfl⟩ := hr'
          simp only [V.refs1, List.mem_singleton] at hq
          subst hq
          cases hh with
          | slot s j => cases hk2
          | obj k jj =>
            simp only [Home.ren, Option.map_eq_some_iff] at hk2
            obtain ⟨o, hko, rfl⟩ := hk2
            refine ⟨⟨o, jj, rfl⟩, ?_⟩
            have hrf := hO.refs 0 r rfl (.obj k jj, g) (by rw [V.refs, List.mem_flatMap]; exact ⟨_, List.mem_of_getElem? hu, by simp [V.refs1]⟩)
            obtain ⟨u2, hu2, hg2⟩ := hrf.2
            obtain ⟨cs2, cr, cs3, b1, b2, b3, hcase⟩ := hB.told k o hko
            simp only [ct, b1] at hu2
            have hz := hB.zero k cs2 b1 u2 (List.mem_of_getElem? hu2)
            obtain ⟨q3, q4⟩ := rens_get b3
            rw [List.length_map] at q3
            obtain ⟨u3, hu3⟩ := exists_getElem? (l := cr) (i := jj) (by have := lt_of_getElem? hu2; omega)
            have hren := q4 jj (zero1 u2) u3 (by rw [List.getElem?_map, hu2]; rfl) hu3
            rw [hz] at hren
            have hpos : 0 < u3.nextg ∧ ((∃ g sz es, u3 = .xsl g sz es) ∨ (∃ g sz es, u3 = .isl g sz es) ∨ ∃ g sz es, u3 = .fsl g sz es) := by
              cases u2 <;> simp only [V.nextg] at hg2 <;> first | omega | skip
              all_goals first
                | (simp only [V.ren, Option.some.injEq] at hren; subst hren; refine ⟨by simp [V.nextg], ?_⟩; first | exact .inl ⟨_, _, _, rfl⟩ | exact .inr (.inl ⟨_, _, _, rfl⟩) | exact .inr (.inr ⟨_, _, _, rfl⟩))
                | (simp only [zero1, V.gone.injEq] at hz; omega)
            rcases hcase with ⟨_, cs, c1, c2, _⟩ | ⟨_, _, rfl⟩
            · obtain ⟨r1, r2, _⟩ := regens_some _ _ _ c2
              obtain ⟨w', w1, w2⟩ := r2 jj u3 hu3
              refine ⟨w', by simp only [ct, b2]; exact w1, ?_⟩
              rcases hpos.2 with ⟨_, _, _, rfl⟩ | ⟨_, _, _, rfl⟩ | ⟨_, _, _, rfl⟩ <;> (simp only [regen1, Option.some.injEq] at w2; subst w2; simp [V.nextg])
            · exact ⟨u3, by simp only [ct, b2]; exact hu3, hpos.1⟩
      have hct : ∀ o j, ct (slots ++ [v]) objs3 (.obj o j) = ct slots objs3 (.obj o j) := fun o j => rfl
      rcases hr2 with rfl | ⟨h, g, g', sz, i, off, rfl, rfl, w, hw, hg'⟩
      · obtain ⟨⟨o, j, e⟩, w, hw, hg⟩ := hgen q hq
        exact ⟨(fun t i e' => by rw [e] at e'; cases e'), w, (by rw [e] at hw ⊢; exact hw), hg⟩
      · obtain ⟨⟨o, j, e⟩, _⟩ := hgen (h, g) (by simp [V.refs, V.leaves, V.refs1])
        simp only at e
        subst e
        simp only [V.refs, V.leaves, V.refs1, List.flatMap_cons, List.flatMap_nil, List.append_nil, List.mem_singleton] at hq
        subst hq
        exact ⟨(fun t i e' => by cases e'), w, hw, hg'⟩
theorem Grow.back (hB : BackObjs ids all objs objs2 objs3) (hf : ∀ b, H.size ≤ b → E.tag b = .other) (hG : Grow ids.length (E.sub ids N) H E2 H2) (hbase : ∀ k o : Nat, ids.length ≤ k → all[k]? = some o → base ≤ o) : Grow base E H (E.back (E.sub ids N) E2 all N) H2 := by
  have hbnd : ∀ b, E.tag b ≠ .other → b < H.size := by
    intro b hb
    rcases Nat.lt_or_ge b H.size with h | h
    · exact h
    · exact absurd (hf b h) hb
  refine ⟨hG.size, fun b i h => back_imm1 hG b i h, fun b hb ho => back_old hG ho hb (.inl rfl) (fun _ h => by cases h), fun b hi => back_old hG hi (hbnd b (by rw [hi]; simp)) (.inr (.inl rfl)) (fun h => absurd rfl h), fun b m hi => back_old hG hi (hbnd b (by rw [hi]; simp)) (.inr (.inr ⟨m, rfl⟩)) (fun _ h => by cases h), fun o ho => ?_⟩
  by_cases hm : ∃ k : Nat, all[k]? = some o
  · obtain ⟨k, hko⟩ := hm
    rcases Nat.lt_or_ge k ids.length with hk | hk
    · rw [hB.addr hko, hG.addr k hk]
      obtain ⟨o', ho'⟩ := exists_getElem? (l := ids) (i := k) hk
      have := hB.pre k o' ho'
      rw [hko] at this; cases this
      simp only [Env.sub, List.getD_eq_getElem?_getD, ho', Option.getD_some]
    · have := hbase k o hk hko; omega
  · have : findIdx all o = none := by
      cases hf : findIdx all o with
      | none => rfl
      | some k => exact absurd ⟨k, findIdx_get hf⟩ hm
    simp only [Env.back, this]
end
end Go.Vq
namespace Go.Vq
def apTag (H : Array Go.Obj) (b : Nat) : Tag → Tag
  | .home _ | .obj _ => .lent (match H[b]? with | some (.cells arr _ _) => arr.size | _ => 0)
  | .tail _ m => .lent m
  | t => t
def Env.apSub (E : Env) (H : Array Go.Obj) : Env := { tag := fun b => apTag H b (E.tag b), addr := E.addr }
section
variable {P : Program} {n base : Nat} {E E' E2 : Env} {σ σ' : St} {hs : List V} {ts xs : List Value} {H H' H2 : Array Go.Obj}
variable {callee : Callee} {o : Oper} {a : Act} {w : World} {next : Act → World → Prop} {Q : Exit → Act → World → Prop}
theorem ap_imm {b i : Nat} (h : E.imm b i) : (E.apSub H).imm b i := by
  simp only [Env.imm, Env.apSub] at h ⊢
  cases ht : E.tag b <;> simp only [ht] at h <;> first | exact h.elim | exact h
theorem ap_c1 (H : Array Go.Obj) : ∀ b i, E.imm b i → (E.apSub H).imm b i ∧ cellAt H b i = cellAt H b i := fun _ _ h => ⟨ap_imm h, rfl⟩
theorem ap_home {b i : Nat} {h : Home} {arr : Array Value} {T : TypeId} {f : Nat × Nat} (ht : E.tag b = .home h) (hb : H[b]? = some (.cells arr T f)) (hi : i < arr.size) : (E.apSub H).imm b i := by
  simp only [Env.imm, Env.apSub, ht, apTag, hb]; exact hi
theorem ap_obj {b i o : Nat} {arr : Array Value} {T : TypeId} {f : Nat × Nat} (ht : E.tag b = .obj o) (hb : H[b]? = some (.cells arr T f)) (hi : i < arr.size) : (E.apSub H).imm b i := by
  simp only [Env.imm, Env.apSub, ht, apTag, hb]; exact hi
def Anywhere (E : Env) (H : Array Go.Obj) (u : V) (y : Value) : Prop :=
  (∀ (slots : List V) (objs : List (Option Obj)) (vals : List Value) (h : Home), RelV E slots objs vals H h u y) ∧ u.refs1 = [] ∧ u.own = false
theorem Anywhere.of_relI {u : V} {y : Value} (h : RelI E.imm H u y) (hl : u.leaf = true) : Anywhere E H u y := ⟨(relI_rel h hl).1, (relI_rel h hl).2.2, (relI_rel h hl).2.1⟩
theorem gCells_obj {ob off m : Nat} {k : List V → Prog} (hr : (gCells (.obj ob off) m k).run σ = some σ') : ∃ cs, σ.obj ob = some (.cells cs) := by
  simp only [gCells, Prog.run] at hr
  split at hr
  · exact ⟨_, by assumption⟩
  · cases hr
theorem cellAt_lt {b i : Nat} {y : Value} (h : cellAt H b i = some y) : ∃ arr T f, H[b]? = some (.cells arr T f) ∧ i < arr.size := by
  simp only [cellAt] at h
  split at h
  · rename_i arr T f hb
    refine ⟨arr, T, f, hb, ?_⟩
    rcases Nat.lt_or_ge i arr.size with h' | h'
    · exact h'
    · rw [Array.getElem?_eq_none h'] at h; cases h
  · cases h
theorem pres0_sound {u : V} {y : Value} {h0 : Home} {k : V → Prog} (hC : CoreS n E σ hs ts xs H) (hR : RelV E (σ.slots ++ hs) σ.objs (ts ++ xs) H h0 u y) (hr : (pres0 u k).run σ = some σ') :
    ∃ u', (k u').run σ = some σ' ∧ Anywhere (E.apSub H) H u' y ∧ u'.leaf = true ∧ ((∃ g, u = .gone g) ↔ ∃ g, u' = .gone g) := by
  have hisl : ∀ {sz : Nat} {es : List V} {a : Option Addr} {cap : Nat}, View E.imm H sz es y a cap → (∀ (ad : Addr) (i : Nat) (e : V) (j : Nat), a = some ad → es[i]? = some e → j < e.cells.length → (E.apSub H).imm ad.block (ad.off + (i * sz + j))) → Anywhere (E.apSub H) H (.isl 0 sz es) y := by
    intro sz es a cap hw hi
    refine .of_relI (isl_of_view ⟨hw.eq, hw.le, hw.nil, hw.spot, hw.elems.mono (ap_c1 H) (fun _ _ => rfl)⟩ hi) rfl
  have hblock : ∀ {sz : Nat} {es : List V} {ad : Addr} {cap : Nat} {arr : Array Value} {i j : Nat} {e : V}, es.length ≤ cap → ad.off + cap * sz ≤ arr.size → Elems E.imm H (some ad) sz es → es[i]? = some e → j < e.cells.length → ad.off + (i * sz + j) < arr.size ∧ i * sz + j < es.length * sz := by
    intro sz es ad cap arr i j e h1 h2 h3 h4 h5
    have hil := lt_of_getElem? h4
    rw [(h3.1 e (List.mem_of_getElem? h4)).1] at h5
    have := Nat.mul_le_mul_right sz hil
    rw [Nat.succ_mul] at this
    have := Nat.mul_le_mul_right sz h1
    omega
  have hlist : ∀ {cs : List V} {ad : Addr} {len c : Nat}, y = .slice (some ad) len c → len ≤ c → ad.spot = none → cs.length = len → (∀ u ∈ cs, u.flat = true) → (∀ (j : Nat) (u : V), cs[j]? = some u → ∃ z, cellAt H ad.block (ad.off + j) = some z ∧ RelI E.imm H u z ∧ (E.apSub H).imm ad.block (ad.off + j)) → Anywhere (E.apSub H) H (.isl 0 1 cs) y := by
    intro cs ad len c e1 e2 hsp hlen hfl hcell
    refine hisl (a := some ad) (cap := c) ⟨by rw [hlen]; exact e1, by omega, fun h => (by cases h), fun ad' h _ => (by cases h; exact hsp), fun u hu => ?_, fun i u j v hu hv => ?_⟩ (fun ad' i u j h1 hu hj => ?_)
    · obtain ⟨k1, _, _, _, _, _, k7⟩ := flat_ok (hfl u hu)
      rw [elemOk, k7]; exact ⟨rfl, by simpa using k1⟩
    · obtain ⟨k1, _, _, _, _, _, k7⟩ := flat_ok (hfl u (List.mem_of_getElem? hu))
      rw [k7] at hv
      cases j with
      | succ j => simp at hv
      | zero =>
        simp at hv; subst hv
        obtain ⟨z, z1, z2, _⟩ := hcell i _ hu
        exact ⟨ad, z, rfl, by simpa using z1, z2⟩
    · cases h1
      obtain ⟨k1, _, _, _, _, _, k7⟩ := flat_ok (hfl u (List.mem_of_getElem? hu))
      rw [k7] at hj
      have : j = 0 := by simpa using hj
      subst this
      obtain ⟨z, _, _, z3⟩ := hcell i u hu
      simpa using z3
  cases u <;> first | (cases hr; done) | skip
  case xsl g sz es =>
    obtain ⟨a, cap, e1, e2, e3, e4, e5, e6⟩ := hR
    refine ⟨_, hr, hisl ⟨e1, e2, e3, e4, e6⟩ (fun ad i e j h1 h2 h3 => ?_), rfl, by simp⟩
    subst h1
    have hil := lt_of_getElem? h2
    obtain ⟨ad', arr, T, f, f1, f2, f3, f4, f5⟩ := e5 (by omega)
    cases f1
    exact ap_home f2 f3 (hblock e2 f4 e6 h2 h3).1
  case fsl g sz es =>
    obtain ⟨a, cap, e1, e2, e3, e4, e5, e6⟩ := hR
    refine ⟨_, hr, hisl ⟨e1, e2, e3, e4, e6⟩ (fun ad i e j h1 h2 h3 => ?_), rfl, by simp⟩
    subst h1
    have hil := lt_of_getElem? h2
    obtain ⟨ad', arr, T, f, f1, f2, f3, f4, f5⟩ := e5 (by omega)
    cases f1
    refine ap_imm ?_
    simp only [Env.imm, f2]
    have := (hblock e2 f4 e6 h2 h3).2
    omega
  case isl g sz es =>
    obtain ⟨a, cap, hw, hi⟩ := View.of_isl hR
    exact ⟨_, hr, hisl hw (fun ad i e j h1 h2 h3 => ap_imm (hi ad i e j h1 h2 h3)), rfl, by simp⟩
  case csl sz es =>
    obtain ⟨a, cap, hw, hi⟩ := View.of_isl hR.1
    exact ⟨_, hr, hisl hw (fun ad i e j h1 h2 h3 => ap_imm (hi ad i e j h1 h2 h3)), rfl, by simp⟩
  case nilS sz =>
    have e0 := relV_toVal hR rfl
    subst e0
    exact ⟨_, hr, .of_relI (isl_nil (fun _ => rfl) (fun _ h => by cases h)) rfl, rfl, by simp⟩
  case srf hm g sz off len =>
    simp only [pres0] at hr
    replace hr := gElems_run hr
    obtain ⟨u1, own, es, hu1, hk, hr⟩ := hr
    rw [Prog.run_ite] at hr
    split at hr
    · rename_i hle
      have hkk : u1 = .xsl g sz es ∨ u1 = .isl g sz es ∨ u1 = .fsl g sz es := by rcases hk with ⟨h, _⟩ | ⟨h | h, _⟩ <;> simp [h]
      obtain ⟨d4, _⟩ := ct_real' (n := n) (hs := hs) hC.sl hu1 (by rcases hkk with rfl | rfl | rfl <;> exact fun g => by simp)
      obtain ⟨y1, a0, cap, f1, f2, f3, _, f5⟩ := hC.core.homeView d4 hkk
      have hvl : valid (σ.slots ++ hs) σ.objs hm g sz := ⟨_, d4, by rcases hkk with rfl | rfl | rfl <;> rfl⟩
      obtain ⟨a', cap', hw, ha⟩ := View.of_srf hR hvl f1 f2 hle
      have hi : ∀ (ad : Addr) (i : Nat) (e : V) (j : Nat), a0 = some ad → es[i]? = some e → j < e.cells.length → (E.apSub H).imm ad.block (ad.off + (i * sz + j)) := by
        intro ad i e j h1 h2 h3
        by_cases hx : u1 = .xsl g sz es
        · have hil := lt_of_getElem? h2
          have := f2.le
          obtain ⟨ad', arr, T, f, b1, b2, b3, b4, b5⟩ := f3 hx (by omega)
          rw [h1] at b1; cases b1
          subst h1
          exact ap_home b2 b3 (hblock f2.le b4 f2.elems h2 h3).1
        · exact ap_imm (f5 hx ad i e j h1 h2 h3)
      have hI := isl_of_sub (g := 0) (imm := (E.apSub H).imm) (cap := cap) (H := H) ⟨hw.eq, hw.le, hw.nil, hw.spot, hw.elems.mono (ap_c1 H) (fun _ _ => rfl)⟩ ha hi
      exact ⟨_, hr, .of_relI hI rfl, rfl, by simp⟩
    · cases hr
  case asl r len =>
    simp only [pres0] at hr
    cases r with
    | obj ob off =>
      obtain ⟨c, e1, e2, e3⟩ := hR
      obtain ⟨cs0, hob⟩ := gCells_obj hr
      obtain ⟨cs, hr, hlen, hcell⟩ := gCells_sound (h0 := h0) hC (show RelV E (σ.slots ++ hs) σ.objs (ts ++ xs) H h0 (.ptr (.obj ob off)) (.pointer (some ⟨E.addr ob, off, none⟩)) from ⟨rfl, e3⟩) hr
      rw [Prog.run_ite] at hr
      split at hr
      · rename_i hfl
        have hfl' : ∀ u ∈ cs, u.flat = true := fun u hu => List.all_eq_true.1 hfl u hu
        refine ⟨_, hr, hlist e1 e2 rfl hlen hfl' (fun j u hu => ?_), rfl, by simp⟩
        obtain ⟨z, z1, z2, _⟩ := hcell j u hu
        refine ⟨z, z1, (relV_plain (h := h0) (flat_ok (hfl' u (List.mem_of_getElem? hu))).2.2.2.2.2.1).1 (z2 _), ?_⟩
        obtain ⟨arr, T, f, hb, hj⟩ := cellAt_lt z1
        obtain ⟨_, _, _, _, g2, _⟩ := hC.objAt hob
        exact ap_obj g2 hb hj
      · cases hr
    | elem hm g sz i off =>
      obtain ⟨ad', c, e1, e2, e3, e4⟩ := hR
      have hr0 := hr
      simp only [gCells] at hr0
      obtain ⟨u1, own, es, hu1, hk, hr0⟩ := gElems_run hr0
      have hkk : u1 = .xsl g sz es ∨ u1 = .isl g sz es ∨ u1 = .fsl g sz es := by rcases hk with ⟨h, _⟩ | ⟨h | h, _⟩ <;> simp [h]
      obtain ⟨d4, _⟩ := ct_real' (n := n) (hs := hs) hC.sl hu1 (by rcases hkk with rfl | rfl | rfl <;> exact fun g => by simp)
      obtain ⟨y1, a0, cap, f1, f2, f3, _, f5⟩ := hC.core.homeView d4 hkk
      have hvl : valid (σ.slots ++ hs) σ.objs hm g sz := ⟨_, d4, by rcases hkk with rfl | rfl | rfl <;> rfl⟩
      obtain ⟨ad, l0, c0, b1, b2⟩ := e4 hvl
      rw [f1] at b1
      cases b1
      have e5 := f2.eq
      injection e5 with e5 e6 e7
      subst e5
      have hsome : ∃ e, es[i]? = some e ∧ off + len ≤ e.cells.length := by
        split at hr0
        · rename_i e he
          rw [Prog.run_ite] at hr0
          split at hr0
          · exact ⟨e, he, by assumption⟩
          · cases hr0
        · cases hr0
      clear hr0
      obtain ⟨e, he, hel⟩ := hsome
      obtain ⟨cs, hr, hlen, hcell⟩ := gCells_sound (h0 := h0) (ad := ad') hC (show RelV E (σ.slots ++ hs) σ.objs (ts ++ xs) H h0 (.ptr (.elem hm g sz i off)) (.pointer (some ad')) from ⟨ad', rfl, e4⟩) hr
      rw [Prog.run_ite] at hr
      split at hr
      · rename_i hfl
        have hfl' : ∀ u ∈ cs, u.flat = true := fun u hu => List.all_eq_true.1 hfl u hu
        refine ⟨_, hr, hlist e1 e2 e3 hlen hfl' (fun j u hu => ?_), rfl, by simp⟩
        obtain ⟨z, z1, z2, _⟩ := hcell j u hu
        have hjl := lt_of_getElem? hu
        refine ⟨z, z1, (relV_plain (h := h0) (flat_ok (hfl' u (List.mem_of_getElem? hu))).2.2.2.2.2.1).1 (z2 _), ?_⟩
        obtain ⟨arr, T, f, hb, hj⟩ := cellAt_lt z1
        subst b2
        by_cases hx : u1 = .xsl g sz es
        · have hil := lt_of_getElem? he
          have := f2.le
          obtain ⟨ad2, arr2, T2, fr2, q1, q2, q3, q4, q5⟩ := f3 hx (by omega)
          cases q1
          exact ap_home q2 hb hj
        · have := ap_imm (H := H) (f5 hx ad i e (off + j) rfl he (by omega))
          simp only
          rw [show ad.off + (i * sz + off) + j = ad.off + (i * sz + (off + j)) by omega]
          exact this
      · cases hr
  case func f caps =>
    simp only [pres0] at hr
    rw [Prog.run_ite] at hr
    split at hr
    · rename_i h0'
      refine ⟨_, hr, ⟨fun slots objs vals h => ?_, rfl, rfl⟩, rfl, by simp⟩
      exact RelC.mono (ap_c1 H) hR (fun o ho => by rw [h0'] at ho; cases ho)
    · cases hr
  case gone g => exact ⟨_, hr, ⟨fun _ _ _ _ => trivial, rfl, rfl⟩, rfl, by simp⟩
  case iptr cs =>
    obtain ⟨ad, h1, hs', h2⟩ := hR
    refine ⟨_, hr, ⟨fun slots objs vals h => ⟨ad, h1, hs', fun j v hj => ?_⟩, rfl, rfl⟩, rfl, by simp⟩
    obtain ⟨e0, y, e1, e2, e3⟩ := h2 j v hj
    exact ⟨e0, y, ap_imm e1, e2, e3.mono (ap_c1 H)⟩
  all_goals exact ⟨_, hr, .of_relI (RelI.mono (ap_c1 H) hR) rfl, rfl, by simp⟩
theorem press0_sound : ∀ (us : List V) {ys : List Value} {k : List V → Prog}, CoreS n E σ hs ts xs H → us.length = ys.length → (∀ (i : Nat) (u : V) (y : Value), us[i]? = some u → ys[i]? = some y → ∃ h0, RelV E (σ.slots ++ hs) σ.objs (ts ++ xs) H h0 u y) → (press0 us k).run σ = some σ' →
    ∃ ls, (k ls).run σ = some σ' ∧ ls.length = us.length ∧ ∀ (i : Nat) (u : V) (y : Value), ls[i]? = some u → ys[i]? = some y → Anywhere (E.apSub H) H u y
  | [], ys, k, hC, hl, hR, hr => ⟨[], hr, rfl, fun i u y h => by simp at h⟩
  | u :: us, [], k, hC, hl, hR, hr => by simp at hl
  | u :: us, y :: ys, k, hC, hl, hR, hr => by
    simp only [press0] at hr
    obtain ⟨h0, hR0⟩ := hR 0 u y rfl rfl
    obtain ⟨u', hr, h1, _, _⟩ := pres0_sound hC hR0 hr
    obtain ⟨ls, hr, g1, g3⟩ := press0_sound us hC (by simpa using hl) (fun i u y hu hy => hR (i + 1) u y (by simpa using hu) (by simpa using hy)) hr
    refine ⟨u' :: ls, hr, by simp [g1], fun i v z hv hz => ?_⟩
    cases i with
    | zero => simp at hv hz; subst hv hz; exact h1
    | succ i => exact g3 i v z (by simpa using hv) (by simpa using hz)
theorem pres1_sound {u : V} {y : Value} {h0 : Home} {k : V → Prog} (hC : CoreS n E σ hs ts xs H) (hR : RelV E (σ.slots ++ hs) σ.objs (ts ++ xs) H h0 u y) (hr : (pres1 u k).run σ = some σ') :
    ∃ u', (k u').run σ = some σ' ∧ Anywhere (E.apSub H) H u' y ∧ u'.leaf = true ∧ ((∃ g, u = .gone g) ↔ ∃ g, u' = .gone g) := by
  by_cases hp : ∃ o off, u = .ptr (.obj o off)
  · obtain ⟨o, off, rfl⟩ := hp
    obtain ⟨rfl, hal⟩ : y = .pointer (some ⟨E.addr o, off, none⟩) ∧ alive σ.objs o := hR
    simp only [pres1, Prog.run] at hr
    split at hr
    · rename_i cs ho
      obtain ⟨arr, T, f, g1, g2, g3, g4, g5, g6⟩ := hC.objAt ho
      obtain ⟨ls, hr, hl, hA⟩ := press0_sound (cs.drop off) (ys := arr.toList.drop off) hC (by simp [g3]) (fun i u y hu hy => by
        rw [List.getElem?_drop] at hu hy
        exact ⟨_, g5 (off + i) u y hu (by simpa using hy)⟩) hr
      rw [Prog.run_ite] at hr
      split at hr
      · rename_i hall
        refine ⟨_, hr, ⟨fun slots objs vals h => ⟨⟨E.addr o, off, none⟩, rfl, rfl, fun j v hj => ?_⟩, rfl, rfl⟩, rfl, by simp⟩
        have hjl := lt_of_getElem? hj
        have hjs : off + j < arr.size := by rw [hl] at hjl; simp at hjl; omega
        have hv : v.inElem = true := List.all_eq_true.1 hall v (List.mem_of_getElem? hj)
        have hy : (arr.toList.drop off)[j]? = some arr[off + j] := by rw [List.getElem?_drop]; simp [hjs]
        refine ⟨(inElem_leaf hv).1, arr[off + j], ap_obj g2 g1 hjs, ?_, ?_⟩
        · simp only [cellAt, g1]; simp [hjs]
        · exact inElem_relI ((hA j v _ hj hy).1 [] [] [] (.slot 0 0)) hv
      · cases hr
    · cases hr
  · have : pres1 u k = pres0 u k := by
      cases u <;> first | rfl | skip
      rename_i r
      cases r with
      | obj o off => exact absurd ⟨o, off, rfl⟩ hp
      | elem => rfl
    rw [this] at hr
    exact pres0_sound hC hR hr
structure AnyV (E : Env) (H : Array Go.Obj) (v : V) (x : Value) : Prop where
  rel : ∀ (slots : List V) (objs : List (Option Obj)) (vals : List Value) (s : Nat), SlotRel E slots objs vals H s v x
  refs : v.refs = []
theorem press_sound : ∀ (us : List V) {ys : List Value} {s j : Nat} {k : List V → Prog}, CoreS n E σ hs ts xs H → us.length = ys.length → (∀ (i : Nat) (u : V) (y : Value), us[i]? = some u → ys[i]? = some y → RelV E (σ.slots ++ hs) σ.objs (ts ++ xs) H (.slot s (j + i)) u y) → (press us k).run σ = some σ' →
    ∃ ls, (k ls).run σ = some σ' ∧ ls.length = us.length ∧ (∀ u ∈ ls, u.leaf = true ∧ u.refs1 = []) ∧ ∀ (i : Nat) (u : V) (y : Value), ls[i]? = some u → ys[i]? = some y → Anywhere (E.apSub H) H u y
  | [], ys, s, j, k, hC, hl, hR, hr => ⟨[], hr, rfl, fun u h => (by cases h), fun i u y h => by simp at h⟩
  | u :: us, [], s, j, k, hC, hl, hR, hr => by simp at hl
  | u :: us, y :: ys, s, j, k, hC, hl, hR, hr => by
    simp only [press] at hr
    obtain ⟨u', hr, h1, h2, _⟩ := pres1_sound hC (hR 0 u y rfl rfl) hr
    obtain ⟨ls, hr, g1, g2, g3⟩ := press_sound us (s := s) (j := j + 1) hC (by simpa using hl) (fun i u y hu hy => by
      have := hR (i + 1) u y (by simpa using hu) (by simpa using hy)
      rw [show j + 1 + i = j + (i + 1) by omega]; exact this) hr
    refine ⟨u' :: ls, hr, by simp [g1], fun v hv => ?_, fun i v z hv hz => ?_⟩
    · rcases List.mem_cons.1 hv with rfl | hv
      · exact ⟨h2, h1.2.1⟩
      · exact g2 v hv
    · cases i with
      | zero => simp at hv hz; subst hv hz; exact h1
      | succ i => exact g3 i v z (by simpa using hv) (by simpa using hz)
theorem presArg_sound {x' : Opd} {x : Value} {k : V → Prog} (hC : CoreS n E σ hs ts xs H) (hok : OpdOk ts x' x) (hr : (presArg x' k).run σ = some σ') : ∃ v, (k v).run σ = some σ' ∧ AnyV (E.apSub H) H v x := by
  obtain ⟨v, hr, ⟨s, hS, hs'⟩, hrest⟩ := opd_rel (v := .nil) hC hok hr
  clear hrest hs'
  have hr' : (∀ vs, v ≠ .tup vs) ∧ (press v.leaves fun ls => k (v.withLeaves ls)).run σ = some σ' := by
    cases v <;> first | (cases hr; done) | exact ⟨fun vs => by simp, hr⟩
  obtain ⟨hnt, hr'⟩ := hr'
  clear hr
  by_cases hg : ∃ g, v = .gone g
  · obtain ⟨g, rfl⟩ := hg
    refine ⟨.gone g, ?_, ⟨fun _ _ _ _ => ⟨trivial, fun i u y hu _ => by cases i with | zero => simp [V.leaves] at hu; subst hu; trivial | succ i => simp [V.leaves] at hu⟩, rfl⟩⟩
    exact hr'
  · have hlen := shape_len hS.1 (fun g e => hg ⟨g, e⟩)
    obtain ⟨ls, hr2, g1, g2, g3⟩ := press_sound v.leaves (ys := vleaves x) (s := s) (j := 0) hC hlen (fun i u y hu hy => by rw [Nat.zero_add]; exact hS.2 i u y hu hy) hr'
    have hlf : ∀ u ∈ ls, u.leaf = true := fun u hu => (g2 u hu).1
    have hwl := withLeaves_leaves hS.formed g1 hlf
    refine ⟨_, hr2, ⟨fun slots objs vals s' => ⟨withLeaves_shape hS.formed g1 hlf hS.1 (fun g e => hg ⟨g, e⟩), fun i u y hu hy => ?_⟩, ?_⟩⟩
    · rw [hwl] at hu
      exact (g3 i u y hu hy).1 _ _ _ _
    · rw [refs_of_leaves hwl, List.flatMap_eq_nil_iff]
      exact fun u hu => (g2 u hu).2
theorem presArgs_sound (a : Act) (hC : CoreS n E σ hs a.tmps.toList xs H) : ∀ {as : List (Operand × TypeId)} {os : List Opd} {k : List V → Prog}, (as.mapM fun (x, t) => opd P t x) = some os → (presArgs os k).run σ = some σ' →
    ∃ vs, (k vs).run σ = some σ' ∧ vs.length = as.length ∧ ∀ (i : Nat) (v : V) (q : Operand × TypeId), vs[i]? = some v → as[i]? = some q → AnyV (E.apSub H) H v (a.eval q.1)
  | [], os, k, h, hr => by
    simp at h; subst h
    exact ⟨[], hr, rfl, fun i v q h => by simp at h⟩
  | q0 :: as, os, k, h, hr => by
    rw [List.mapM_cons] at h
    simp only [Option.bind_eq_bind, Option.pure_def] at h
    obtain ⟨o0, h0, h⟩ := Option.bind_eq_some_iff.1 h
    obtain ⟨os', h1, h⟩ := Option.bind_eq_some_iff.1 h
    cases h
    simp only [presArgs] at hr
    obtain ⟨v, hr, hv⟩ := presArg_sound hC (opd_ok a h0) hr
    obtain ⟨vs, hr, hl, hall⟩ := presArgs_sound a hC h1 hr
    refine ⟨v :: vs, hr, by simp [hl], fun i v' q hv' hq => ?_⟩
    cases i with
    | zero => simp at hv' hq; subst hv' hq; exact hv
    | succ i => exact hall i v' q (by simpa using hv') (by simpa using hq)
end
end Go.Vq
namespace Go.Vq
def RetOk (base : Nat) (E : Env) (w : World) (r : V) (os : List Obj) : Ending → World → Prop
  | .returned x, w' => ∃ E', Core 0 E' [r] (os.map some) [x] w'.heap ∧ Grow base E w.heap E' w'.heap ∧ WSame w w'
  | _, _ => False
def Grew (w w' : World) : Prop := (∃ os : Array Go.Obj, w'.heap = w.heap ++ os) ∧ WSame w w'
def InplOk (P : Program) (f : FuncId) (args : List V) (r : V) : Prop :=
  ∃ sz es g fs, args = [.isl 0 sz es] ∧ r = .isl g sz fs ∧
    (es = [] → ∀ (a : Option Addr) (cap : Nat) (w : World), Calls P f #[.slice a 0 cap] w fun e w' => e = .returned (.tuple #[]) ∧ Grew w w') ∧
    (es ≠ [] → ∀ (imm : Nat → Nat → Prop) (w : World) (ad : Addr) (cap : Nat) (arr : Array Value) (T : TypeId) (fr : Nat × Nat), w.heap[ad.block]? = some (.cells arr T fr) → open_ fr arr.size → ad.off + es.length * sz ≤ arr.size → ad.spot = none → es.length ≤ cap → es.length ≤ 140737488355328 →
      Elems imm w.heap (some ad) sz es → (∀ b i, imm b i → b ≠ ad.block) →
      Calls P f #[.slice (some ad) es.length cap] w fun e w' => e = .returned (.tuple #[]) ∧ ∃ arr' : Array Value, arr'.size = arr.size ∧ Elems imm (w.heap.setIfInBounds ad.block (.cells arr' T fr)) (some ad) sz fs ∧ Grew { w with heap := w.heap.setIfInBounds ad.block (.cells arr' T fr) } w')
def Behaves (P : Program) (f : FuncId) (args : List V) (objs : List Obj) (r : V) (os : List Obj) : Prop :=
  (∀ (k : Nat) (cs : List V), os[k]? = some (.cells cs) → ∀ u ∈ cs, zero1 u = u) ∧
  match os with
  | [.map _] => InplOk P f args r
  | os => ∀ (E : Env) (vals : List Value) (w : World), Core 0 E args (objs.map some) vals w.heap → Calls P f vals.toArray w (RetOk objs.length E w r os)
theorem behaves_ret {P : Program} {f : FuncId} {args : List V} {objs : List Obj} {r : V} {os : List Obj} (h : Behaves P f args objs r os) (hc : ∀ (k : Nat) (x : Obj), os[k]? = some x → ∃ cs, x = .cells cs) :
    ∀ (E : Env) (vals : List Value) (w : World), Core 0 E args (objs.map some) vals w.heap → Calls P f vals.toArray w (RetOk objs.length E w r os) := by
  have h := h.2
  split at h
  · obtain ⟨cs, e⟩ := hc 0 _ rfl
    cases e
  · exact h
theorem behaves_of {P : Program} {f : FuncId} {args : List V} {objs : List Obj} {r : V} {os : List Obj} (hz : ∀ (k : Nat) (cs : List V), os[k]? = some (.cells cs) → ∀ u ∈ cs, zero1 u = u) (hc : ∀ (k : Nat) (x : Obj), os[k]? = some x → ∃ cs, x = .cells cs)
    (h : ∀ (E : Env) (vals : List Value) (w : World), Core 0 E args (objs.map some) vals w.heap → Calls P f vals.toArray w (RetOk objs.length E w r os)) : Behaves P f args objs r os := by
  refine ⟨hz, ?_⟩
  split
  · obtain ⟨cs, e⟩ := hc 0 _ rfl
    cases e
  · exact h
section
variable {P : Program} {n base : Nat} {E E' E2 : Env} {σ σ' : St} {hs : List V} {ts xs : List Value} {H H' H2 : Array Go.Obj}
variable {callee : Callee} {o : Oper} {a : Act} {w : World} {next : Act → World → Prop} {Q : Exit → Act → World → Prop}
theorem plain_any {imm imm' : Nat → Nat → Prop} {v : V} {x : Value} (h : RelI imm H v x) (hp : v.plain = true) : RelI imm' H' v x := by
  obtain ⟨y, hy⟩ := plain_toVal hp
  have := relI_toVal h hy
  subst this
  exact toVal_rel hy _ _
theorem noslices_iff : ∀ {cs : List V}, noslices cs = true ↔ ∀ u ∈ cs, u.noslice = true
  | [] => by simp [noslices]
  | c :: cs => by simp [noslices, noslices_iff]
theorem noslice_any {imm imm' : Nat → Nat → Prop} {v : V} {x : Value} (h : RelI imm H v x) (hn : v.noslice = true) : RelI imm' H' v x := by
  induction h with
  | isl => simp [V.noslice] at hn
  | agg cs xs hl _ ih =>
    simp only [V.noslice] at hn
    exact .agg cs xs hl fun i v x hv hx => ih i v x hv hx (noslices_iff.1 hn v (List.mem_of_getElem? hv))
  | iface t v x hp h _ => exact .iface t v x hp (plain_any h hp)
  | bool b => exact .bool b
  | int k m => exact .int k m
  | str s => exact .str s
  | nil => exact .nil
  | nilf => exact .nilf
  | nilm => exact .nilm
  | nili => exact .nili
  | nilS sz => exact .nilS sz
theorem noslice_cells {e : V} (h : e.noslice = true) : ∀ u ∈ e.cells, u.noslice = true := by
  cases e <;> first
    | (intro u hu; simp only [V.cells, List.mem_singleton] at hu; subst hu; exact h)
    | (simp only [V.noslice] at h; exact noslices_iff.1 h)
def Env.apBack (E E2 : Env) (m N : Nat) : Env :=
  { tag := fun b => if b < m then E.tag b else match E2.tag b with
      | .home (.slot s i) => if s = 0 then .home (.slot N i) else .other
      | .tail (.slot s i) k => if s = 0 then .tail (.slot N i) k else .other
      | _ => .other
    addr := E.addr }
theorem ap_back {r : V} {x : Value} (hC : CoreS n E σ [] ts [] H) (hO : Core 0 E2 [r] [] [x] H2) (hG : Grow 0 (E.apSub H) H E2 H2) (hap : r.apart = true) :
    CoreS n (E.apBack E2 H.size n) σ [r] ts [x] H2 ∧ Grow base E H (E.apBack E2 H.size n) H2 := by
  have hC0 := hC.core
  simp only [List.append_nil] at hC0
  have hold : ∀ b, b < H.size → H2[b]? = H[b]? ∧ ((E2.tag b = .other) ∨ E2.tag b = .imm ∨ ∃ m, E2.tag b = .lent m) := by
    intro b hb
    have : (E.apSub H).tag b = .other ∨ (E.apSub H).tag b = .imm ∨ ∃ m, (E.apSub H).tag b = .lent m := by
      simp only [Env.apSub]
      cases E.tag b <;> simp [apTag]
    rcases this with h | h | ⟨m, h⟩
    · exact ⟨(hG.other b hb h).2, .inl (hG.other b hb h).1⟩
    · exact ⟨(hG.immT b h).2, .inr (.inl (hG.immT b h).1)⟩
    · exact ⟨(hG.lentT b m h).2, .inr (.inr ⟨m, (hG.lentT b m h).1⟩)⟩
  have htag : ∀ b, b < H.size → (E.apBack E2 H.size n).tag b = E.tag b := fun b hb => by simp only [Env.apBack, if_pos hb]
  have hbnd : ∀ b, E.tag b ≠ .other → b < H.size := by
    intro b hb
    rcases Nat.lt_or_ge b H.size with h | h
    · exact h
    · exact absurd (hC0.fresh b h) hb
  have c1 : ∀ b i, E.imm b i → (E.apBack E2 H.size n).imm b i ∧ cellAt H2 b i = cellAt H b i := by
    intro b i hi
    have hb : b < H.size := hbnd b (by intro h; simp [Env.imm, h] at hi)
    exact ⟨by simp only [Env.imm, htag b hb]; exact hi, by simp only [cellAt, (hold b hb).1]⟩
  have hfresh : ∀ b, H2.size ≤ b → (E.apBack E2 H.size n).tag b = .other := by
    intro b hb
    simp only [Env.apBack]
    rw [if_neg (by have := hG.size; omega), hO.fresh b hb]
  have hC1 : Core n (E.apBack E2 H.size n) σ.slots σ.objs ts H2 := hC0.change rfl c1 (fun b t ht hc => by
    have hb : b < H.size := hbnd b (by rw [ht]; rcases hc with ⟨o, rfl⟩ | ⟨h, rfl | ⟨m, rfl⟩, _⟩ <;> simp)
    exact ⟨(htag b hb).trans ht, (hold b hb).1⟩) hfresh
  refine ⟨⟨hC.sl, hC.tl, hC1.push ?_ ?_⟩, ⟨hG.size, c1, fun b hb ho => ⟨(htag b hb).trans ho, (hold b hb).1⟩, fun b hi => ?_, fun b m hi => ?_, fun _ _ => rfl⟩⟩
  · have hS := hO.slot 0 r x rfl rfl
    refine ⟨hS.1, fun i u y hu hy => ?_⟩
    have hR := hS.2 i u y hu hy
    have hua := List.all_eq_true.1 hap u (List.mem_of_getElem? hu)
    have hblk : ∀ b, (E2.tag b = .home (.slot 0 i) → (E.apBack E2 H.size n).tag b = .home (.slot σ.slots.length i)) ∧ ∀ m, E2.tag b = .tail (.slot 0 i) m → (E.apBack E2 H.size n).tag b = .tail (.slot σ.slots.length i) m := by
      intro b
      have hlt : (∃ h, E2.tag b = .home h) ∨ (∃ h m, E2.tag b = .tail h m) → ¬ b < H.size := by
        intro hh hb
        rcases (hold b hb).2 with h | h | ⟨m, h⟩ <;> rw [h] at hh <;> rcases hh with ⟨_, h⟩ | ⟨_, _, h⟩ <;> cases h
      refine ⟨fun ht => ?_, fun m ht => ?_⟩
      · simp only [Env.apBack]; rw [if_neg (hlt (.inl ⟨_, ht⟩)), ht, hC.sl]; simp
      · simp only [Env.apBack]; rw [if_neg (hlt (.inr ⟨_, _, ht⟩)), ht, hC.sl]; simp
    have hel : ∀ {sz : Nat} {es : List V} {ad : Option Addr}, Elems E2.imm H2 ad sz es → (es.all V.noslice) = true → Elems (E.apBack E2 H.size n).imm H2 ad sz es := by
      intro sz es ad h1 h2
      refine ⟨h1.1, fun i e j v hi hj => ?_⟩
      obtain ⟨ad', y', e1, e2, e3⟩ := h1.2 i e j v hi hj
      exact ⟨ad', y', e1, e2, noslice_any e3 (noslice_cells (List.all_eq_true.1 h2 e (List.mem_of_getElem? hi)) v (List.mem_of_getElem? hj))⟩
    have hrelI : ∀ {u : V}, u.noslice = true → RelI E2.imm H2 u y → RelI (E.apBack E2 H.size n).imm H2 u y := fun h1 h2 => noslice_any h2 h1
    cases u <;> simp only [V.noslice, Bool.false_eq_true] at hua
    case xsl g sz es =>
      obtain ⟨ad, cap, h1, h2, h3, h4, h5, h6⟩ := hR
      refine ⟨ad, cap, h1, h2, h3, h4, fun hc => ?_, hel h6 hua⟩
      obtain ⟨ad', arr, T, f, e1, e2, e3, e4, e5⟩ := h5 hc
      exact ⟨ad', arr, T, f, e1, (hblk _).1 e2, e3, e4, e5⟩
    case fsl g sz es =>
      obtain ⟨ad, cap, h1, h2, h3, h4, h5, h6⟩ := hR
      refine ⟨ad, cap, h1, h2, h3, h4, fun hc => ?_, hel h6 hua⟩
      obtain ⟨ad', arr, T, f, e1, e2, e3, e4, e5⟩ := h5 hc
      exact ⟨ad', arr, T, f, e1, (hblk _).2 _ e2, e3, e4, e5⟩
    case agg => exact hR.elim
    case tup => exact hR.elim
    all_goals first
      | exact noslice_any (imm := E2.imm) (H := H2) hR rfl
      | exact noslice_any (imm := E2.imm) (H := H2) hR hua
  · intro q hq
    exfalso
    rw [V.refs, List.mem_flatMap] at hq
    obtain ⟨u, hu, hq⟩ := hq
    have hua := List.all_eq_true.1 hap u hu
    cases u <;> simp only [V.noslice, Bool.false_eq_true] at hua <;> simp [V.refs1] at hq
  · have hb := hbnd b (by rw [hi]; simp)
    exact ⟨(htag b hb).trans hi, (hold b hb).1⟩
  · have hb := hbnd b (by rw [hi]; simp)
    exact ⟨(htag b hb).trans hi, (hold b hb).1⟩
theorem list_freeze {w : V} {x : Value} {k : V → Prog} (hC : CoreS n E σ (hs ++ [w]) ts (xs ++ [x]) H) (hr : (k (w.withLeaves (w.leaves.map freeze1))).run σ = some σ') :
    ∃ E1 σ1 w', CoreS n E1 σ1 (hs ++ [w']) ts (xs ++ [x]) H ∧ Grow base E H E1 H ∧ (k w').run σ1 = some σ' ∧ (∀ u ∈ w'.leaves, u.own = false) := by
  have hfo := (hand_rel hC).formed
  obtain ⟨E3, σ3, ls', c1, c2, c3, c4, c5, c6⟩ := list_sound (base := base) freeze1_Sound (fun _ _ vs k => k (vs.map freeze1)) (fun _ _ _ => rfl) (fun _ _ _ _ _ => rfl) (fun _ => none) w.leaves []
      hC rfl (k := fun ls => k (w.withLeaves ls)) hr
  rw [List.nil_append] at c1
  refine ⟨E3, σ3, _, c1, c2, c4, fun u hu => ?_⟩
  rw [withLeaves_leaves hfo c5 fun u hu => (c6 u hu).1] at hu
  exact (c6 u hu).2
theorem lendArg_sound {x' : Opd} {x : Value} {k : V → Prog} (hC : CoreS n E σ hs ts xs H) (hok : OpdOk ts x' x) (hr : (lendArg x' k).run σ = some σ') :
    ∃ E1 σ1 v, CoreS n E1 σ1 (hs ++ [v]) ts (xs ++ [x]) H ∧ Grow base E H E1 H ∧ (k v).run σ1 = some σ' ∧ ∀ u ∈ v.leaves, u.own = false := by
  obtain ⟨v, hr2, hv, hrf, h1, h2⟩ := opd_rel (v := .nil) hC hok hr
  clear hr
  cases x' with
  | tmp t =>
    have e := h1 t rfl
    have hr3 : (settle (fun _ => none) 0 (borrows (.slot t) 0 v.leaves) fun ls => k (v.withLeaves (ls.map freeze1))).run σ = some σ' := by
      cases v <;> first | exact hr2 | (cases hr2; done)
    clear hr2
    subst e
    have hb := hC.borrow (t := t)
    simp only [OpdOk] at hok
    rw [hok] at hb
    have hS : (σ.slot t).formed ∧ ∀ u ∈ (σ.slot t).leaves, u.leaf = true := by
      obtain ⟨s, hS, _⟩ := hv
      exact ⟨hS.formed, hS.leafs⟩
    have hlf : ∀ u ∈ borrows (.slot t) 0 (σ.slot t).leaves, u.leaf = true := by
      intro u hu
      obtain ⟨i, hi⟩ := List.mem_iff_getElem?.1 hu
      rw [borrows_get] at hi
      obtain ⟨z, hz, rfl⟩ := Option.map_eq_some_iff.1 hi
      exact borrow1_leaf (hS.2 z (List.mem_of_getElem? hz))
    have hwl : ((σ.slot t).borrow (.slot t)).leaves = borrows (.slot t) 0 (σ.slot t).leaves := withLeaves_leaves hS.1 (borrows_len _ _ _) hlf
    have hbf := (hand_rel hb).formed
    obtain ⟨E1, σ1, ls, b1, b2, b3, b4, b5, b6⟩ := settle_sound (base := base) (fun _ => none) hb (by rw [hwl]; exact hr3)
    rw [hwl, borrows_len] at b5
    have hw2 : ((σ.slot t).borrow (.slot t)).withLeaves ls = (σ.slot t).withLeaves ls := withLeaves_twice hS.1 (borrows_len _ _ _) hlf b5
    rw [hw2] at b1
    have hw3 : ((σ.slot t).withLeaves ls).leaves = ls := withLeaves_leaves hS.1 b5 fun u hu => (b6 u hu).1
    obtain ⟨E2, σ2, w', c1, c2, c3, c4⟩ := list_freeze (base := base) (k := k) b1 (by
      rw [hw3, show ((σ.slot t).withLeaves ls).withLeaves (ls.map freeze1) = (σ.slot t).withLeaves (ls.map freeze1) from withLeaves_twice hS.1 b5 (fun u hu => (b6 u hu).1) (by simp [b5])]
      exact b4)
    exact ⟨E2, σ2, w', c1, b2.trans c2, c3, c4⟩
  | val v' =>
    have hr3 : (k (v.withLeaves (v.leaves.map freeze1))).run σ = some σ' := by
      cases v <;> first | exact hr2 | (cases hr2; done)
    have hp := hC.pushOpd hv hrf (h2 _ rfl).2
    exact list_freeze (base := base) hp hr3
theorem lendArgs_sound (a : Act) : ∀ {as : List (Operand × TypeId)} {os : List Opd} {k : List V → Prog} {E : Env} {σ : St} {hs : List V} {xs : List Value}, (as.mapM fun (x, t) => opd P t x) = some os → CoreS n E σ hs a.tmps.toList xs H → (lendArgs os k).run σ = some σ' →
    ∃ E1 σ1 vs, CoreS n E1 σ1 (hs ++ vs) a.tmps.toList (xs ++ as.map fun q => a.eval q.1) H ∧ Grow base E H E1 H ∧ (k vs).run σ1 = some σ'
  | [], os, k, E, σ, hs, xs, h, hC, hr => by
    simp at h; subst h
    exact ⟨E, σ, [], by simpa using hC, Grow.refl _ _ _, hr⟩
  | q0 :: as, os, k, E, σ, hs, xs, h, hC, hr => by
    rw [List.mapM_cons] at h
    simp only [Option.bind_eq_bind, Option.pure_def] at h
    obtain ⟨o0, h0, h⟩ := Option.bind_eq_some_iff.1 h
    obtain ⟨os', h1, h⟩ := Option.bind_eq_some_iff.1 h
    cases h
    simp only [lendArgs] at hr
    obtain ⟨E1, σ1, v, b1, b2, b3, _⟩ := lendArg_sound (base := base) hC (opd_ok a h0) hr
    obtain ⟨E2, σ2, vs, c1, c2, c3⟩ := lendArgs_sound a h1 b1 b3
    exact ⟨E2, σ2, v :: vs, by simpa using c1, b2.trans c2, c3⟩
theorem moveArg_sound {x' : Opd} {x : Value} {k : V → Prog} (hC : CoreS n E σ hs ts xs H) (hok : OpdOk ts x' x) (hr : (moveArg x' k).run σ = some σ') :
    ∃ E1 σ1 v, CoreS n E1 σ1 (hs ++ [v]) ts (xs ++ [x]) H ∧ Grow base E H E1 H ∧ (k v).run σ1 = some σ' := by
  have hr2 : ∃ v, (gMove (srcHome v) x' k).run σ = some σ' := by
    cases x' with
    | tmp t => exact ⟨_, hr⟩
    | val v => exact ⟨_, hr⟩
  obtain ⟨v, hr2⟩ := hr2
  obtain ⟨E1, σ1, v', c1, c2, _, c4, _⟩ := gMove_sound (base := base) (srcHome v) hC hok hr2
  exact ⟨E1, σ1, v', c1, c2, c4⟩
theorem moveArgs_sound (a : Act) : ∀ {mv : Nat} {as : List (Operand × TypeId)} {os : List Opd} {k : List V → Prog} {E : Env} {σ : St} {hs : List V} {xs : List Value}, (as.mapM fun (x, t) => opd P t x) = some os → CoreS n E σ hs a.tmps.toList xs H → (moveArgs mv os k).run σ = some σ' →
    ∃ E1 σ1 vs, CoreS n E1 σ1 (hs ++ vs) a.tmps.toList (xs ++ as.map fun q => a.eval q.1) H ∧ Grow base E H E1 H ∧ (k vs).run σ1 = some σ'
  | _, [], os, k, E, σ, hs, xs, h, hC, hr => by
    simp at h; subst h
    exact ⟨E, σ, [], by simpa using hC, Grow.refl _ _ _, hr⟩
  | mv, q0 :: as, os, k, E, σ, hs, xs, h, hC, hr => by
    rw [List.mapM_cons] at h
    simp only [Option.bind_eq_bind, Option.pure_def] at h
    obtain ⟨o0, h0, h⟩ := Option.bind_eq_some_iff.1 h
    obtain ⟨os', h1, h⟩ := Option.bind_eq_some_iff.1 h
    cases h
    simp only [moveArgs] at hr
    split at hr
    · obtain ⟨E1, σ1, v, b1, b2, b3⟩ := moveArg_sound (base := base) hC (opd_ok a h0) hr
      obtain ⟨E2, σ2, vs, c1, c2, c3⟩ := moveArgs_sound a h1 b1 b3
      exact ⟨E2, σ2, v :: vs, by simpa using c1, b2.trans c2, c3⟩
    · obtain ⟨E1, σ1, v, b1, b2, b3, _⟩ := lendArg_sound (base := base) hC (opd_ok a h0) hr
      obtain ⟨E2, σ2, vs, c1, c2, c3⟩ := moveArgs_sound a h1 b1 b3
      exact ⟨E2, σ2, v :: vs, by simpa using c1, b2.trans c2, c3⟩
theorem gThere_run {r : Ref} {k : Prog} (hr : (gThere r k).run σ = some σ') : k.run σ = some σ' ∧ ∀ h g sz i off, r = .elem h g sz i off → valid σ.slots σ.objs h g sz := by
  cases r with
  | obj => exact ⟨hr, fun h g sz i off e => by cases e⟩
  | elem h g sz i off =>
    simp only [gThere] at hr
    obtain ⟨u, own, es, hu, hk, hr⟩ := gElems_run hr
    refine ⟨hr, fun h g sz i off e => ?_⟩
    cases e
    exact ⟨u, hu, by rcases hk with ⟨rfl, _⟩ | ⟨rfl | rfl, _⟩ <;> rfl⟩
theorem gTheres_run : ∀ {us : List V} {k : Prog}, (gTheres us k).run σ = some σ' → k.run σ = some σ' ∧ ∀ u ∈ us, ∀ h g sz i off, u = .ptr (.elem h g sz i off) → valid σ.slots σ.objs h g sz
  | [], k, hr => ⟨hr, fun u h => by cases h⟩
  | v :: us, k, hr => by
    simp only [gTheres] at hr
    have h1 : (gTheres us k).run σ = some σ' ∧ ∀ h g sz i off, v = .ptr (.elem h g sz i off) → valid σ.slots σ.objs h g sz := by
      cases v <;> first
        | (obtain ⟨a, b⟩ := gThere_run hr; exact ⟨a, fun h g sz i off e => b h g sz i off (by cases e; rfl)⟩)
        | exact ⟨hr, fun h g sz i off e => by cases e⟩
    obtain ⟨h2, h3⟩ := gTheres_run h1.1
    refine ⟨h2, fun u hu h g sz i off e => ?_⟩
    rcases List.mem_cons.1 hu with rfl | hu
    · exact h1.2 h g sz i off e
    · exact h3 u hu h g sz i off e
theorem reach_run : ∀ {m : Nat} {todo acc : List Nat} {k : List Nat → Prog}, (reach m todo acc k).run σ = some σ' → ∃ ids, (k ids).run σ = some σ'
  | _, [], acc, k, hr => ⟨acc, by cases ‹Nat› <;> exact hr⟩
  | 0, _ :: _, acc, k, hr => by cases hr
  | m + 1, o :: todo, acc, k, hr => by
    simp only [reach] at hr
    rw [Prog.run_ite] at hr
    split at hr
    · exact reach_run hr
    · simp only [Prog.run] at hr
      split at hr
      · exact reach_run hr
      · cases hr
theorem getObjs_run : ∀ {ids : List Nat} {k : List Obj → Prog}, (getObjs ids k).run σ = some σ' → ∃ os, (k os).run σ = some σ' ∧ os.length = ids.length ∧ ∀ (i o : Nat), ids[i]? = some o → ∃ cs, os[i]? = some (.cells cs) ∧ σ.obj o = some (.cells cs)
  | [], k, hr => ⟨[], hr, rfl, fun i o h => by simp at h⟩
  | o :: ids, k, hr => by
    simp only [getObjs, Prog.run] at hr
    split at hr
    · rename_i cs ho
      obtain ⟨os, h1, h2, h3⟩ := getObjs_run hr
      refine ⟨.cells cs :: os, h1, by simp [h2], fun i o' hi => ?_⟩
      cases i with
      | zero => simp at hi; subst hi; exact ⟨cs, rfl, ho⟩
      | succ i => exact h3 i o' (by simpa using hi)
    · cases hr
end
end Go.Vq
namespace Go.Vq
section
variable {P : Program} {n base : Nat} {E E' E2 : Env} {σ σ' : St} {hs : List V} {ts xs : List Value} {H H' H2 : Array Go.Obj}
variable {callee : Callee} {o : Oper} {a : Act} {w : World} {next : Act → World → Prop} {Q : Exit → Act → World → Prop}
theorem setO_get {σ : St} {o o' : Nat} {x : Option Obj} (h : o < σ.objs.length) : (σ.setO o x).objs[o']? = if o' = o then some x else σ.objs[o']? := by
  simp only [St.setO]
  by_cases e : o' = o
  · subst e; rw [if_pos rfl, List.getElem?_set_self h]
  · rw [if_neg e, List.getElem?_set_ne (fun h => e h.symm)]
theorem obj_some {σ : St} {o : Nat} {x : Obj} (h : σ.obj o = some x) : σ.objs[o]? = some (some x) := by
  simp only [St.obj, List.getD_eq_getElem?_getD] at h
  cases hx : σ.objs[o]? with
  | none => rw [hx] at h; cases h
  | some y => rw [hx] at h; simp only [Option.getD_some] at h; rw [h]
theorem setObjs_run : ∀ {ids : List Nat} {xs : List Obj} {k : Prog} {σ : St}, ids.Nodup → (setObjs ids xs k).run σ = some σ' →
    ∃ σ2, k.run σ2 = some σ' ∧ σ2.slots = σ.slots ∧ σ2.objs.length = σ.objs.length ∧ xs.length = ids.length ∧
      (∀ (i o : Nat), ids[i]? = some o → ∃ ns cs ls, xs[i]? = some (.cells ns) ∧ σ.objs[o]? = some (some (.cells cs)) ∧ regens cs ns = some ls ∧ ls.length = cs.length ∧ σ2.objs[o]? = some (some (.cells ls))) ∧ ∀ o, o ∉ ids → σ2.objs[o]? = σ.objs[o]?
  | [], [], k, σ, hn, hr => ⟨σ, hr, rfl, rfl, rfl, fun i o h => by simp at h, fun _ _ => rfl⟩
  | [], _ :: _, k, σ, hn, hr => by simp only [setObjs] at hr; cases hr
  | _ :: _, [], k, σ, hn, hr => by simp only [setObjs] at hr; cases hr
  | _ :: _, .map _ :: _, k, σ, hn, hr => by simp only [setObjs] at hr; cases hr
  | o :: ids, .cells ns :: xs, k, σ, hn, hr => by
    simp only [setObjs, Prog.run] at hr
    split at hr
    · rename_i cs ho
      split at hr
      · rename_i ls hls
        rw [Prog.run_ite] at hr
        split at hr
        · rename_i hlen
          simp only [Prog.run] at hr
          split at hr
          · rename_i hlt
            obtain ⟨h1, h2⟩ := List.nodup_cons.1 hn
            obtain ⟨σ2, g1, g2, g3, g4, g5, g6⟩ := setObjs_run h2 hr
            refine ⟨σ2, g1, g2, by rw [g3]; simp [St.setO], by simp [g4], fun i o' hi => ?_, fun o' ho' => ?_⟩
            · cases i with
              | zero =>
                simp at hi; subst hi
                refine ⟨ns, cs, ls, rfl, obj_some ho, hls, hlen, ?_⟩
                rw [g6 o h1, setO_get hlt, if_pos rfl]
              | succ i =>
                obtain ⟨ns', cs', ls', e1, e2, e3, e4, e5⟩ := g5 i o' (by simpa using hi)
                have hne : o' ≠ o := by
                  rintro rfl
                  exact h1 (List.mem_of_getElem? (by simpa using hi))
                rw [setO_get hlt, if_neg hne] at e2
                exact ⟨ns', cs', ls', by simpa using e1, e2, e3, e4, e5⟩
            · simp only [List.mem_cons, not_or] at ho'
              rw [g6 o' ho'.2, setO_get hlt, if_neg ho'.1]
          · cases hr
        · cases hr
      · cases hr
    · cases hr
theorem newObjs_run : ∀ {xs : List Obj} {first : Nat} {k : Prog} {σ : St}, (newObjs first xs k).run σ = some σ' →
    ∃ σ2, k.run σ2 = some σ' ∧ σ2.slots = σ.slots ∧ (∀ (j : Nat) (x : Obj), xs[j]? = some x → σ.objs[first + j]? = some none ∧ σ2.objs[first + j]? = some (some x)) ∧ ∀ o, (o < first ∨ first + xs.length ≤ o) → σ2.objs[o]? = σ.objs[o]?
  | [], first, k, σ, hr => ⟨σ, hr, rfl, fun j x h => by simp at h, fun _ _ => rfl⟩
  | x :: xs, first, k, σ, hr => by
    simp only [newObjs, Prog.run] at hr
    split at hr
    · rename_i ho
      simp only [Prog.run] at hr
      split at hr
      · rename_i hlt
        obtain ⟨σ2, g1, g2, g3, g4⟩ := newObjs_run hr
        refine ⟨σ2, g1, g2, fun j y hj => ?_, fun o' ho' => ?_⟩
        · cases j with
          | zero =>
            simp at hj; subst hj
            refine ⟨?_, ?_⟩
            · rw [Nat.add_zero, List.getElem?_eq_getElem hlt]
              simp only [St.obj, List.getD_eq_getElem?_getD, List.getElem?_eq_getElem hlt, Option.getD_some] at ho
              rw [ho]
            · rw [Nat.add_zero, g4 first (.inl (by omega)), setO_get hlt, if_pos rfl]
          | succ j =>
            have := g3 j y (by simpa using hj)
            rw [show first + 1 + j = first + (j + 1) by omega, setO_get hlt, if_neg (by omega)] at this
            exact this
        · simp only [List.length_cons] at ho'
          rw [g4 o' (by omega), setO_get hlt, if_neg (by omega)]
      · cases hr
    · cases hr
theorem newIds_get : ∀ (m first j : Nat), (newIds first m)[j]? = if j < m then some (first + j) else none
  | 0, first, j => by simp [newIds]
  | m + 1, first, 0 => by simp [newIds]
  | m + 1, first, j + 1 => by
    simp only [newIds, List.getElem?_cons_succ, newIds_get m (first + 1) j]
    by_cases h : j < m
    · rw [if_pos h, if_pos (by omega)]; congr 1; omega
    · rw [if_neg h, if_neg (by omega)]
theorem newIds_len : ∀ (m first : Nat), (newIds first m).length = m
  | 0, _ => rfl
  | m + 1, first => by simp [newIds, newIds_len]
theorem resRef_run {v : V} {k : V → Prog} (hr : (resRef v k).run σ = some σ') :
    (k v).run σ = some σ' ∨ ∃ h g g' sz i off w, v = .ptr (.elem h g sz i off) ∧ ct σ.slots σ.objs h = some w ∧ (∀ g, w ≠ .gone g) ∧ g' < w.nextg ∧ (k (.ptr (.elem h g' sz i off))).run σ = some σ' := by
  by_cases hv : ∃ h g sz i off, v = .ptr (.elem h g sz i off)
  · obtain ⟨h, g, sz, i, off, rfl⟩ := hv
    right
    simp only [resRef] at hr
    obtain ⟨w, hw, hr⟩ := gHome_run hr
    cases w <;> first
      | (cases hr; done)
      | exact ⟨h, g, _, sz, i, off, _, rfl, hw, fun g => by simp, by simp only [V.nextg]; exact Nat.lt_succ_self _, hr⟩
  · left
    cases v <;> first
      | exact hr
      | (rename_i r; cases r <;> first | exact hr | exact absurd ⟨_, _, _, _, _, rfl⟩ hv)
theorem relC_slot {objs : List (Option Obj)} {v : V} {y : Value} (h : RelC E objs H v y) : (∀ (slots : List V) (vals : List Value) (s : Nat), SlotRel E slots objs vals H s v y) ∧ v.refs = [] ∧ ∀ u ∈ v.leaves, u.own = false := by
  cases h with
  | imm _ _ h hl =>
    have hlf : v.leaf = true ∨ ∃ cs, v = .agg cs := by cases h <;> first | exact .inl rfl | exact .inr ⟨_, rfl⟩
    have hno : v.refs = [] ∧ ∀ u ∈ v.leaves, u.own = false := by
      refine ⟨?_, fun u hu => (inElem_leaf (hl u hu)).2.2.1⟩
      rw [V.refs, List.flatMap_eq_nil_iff]
      exact fun u hu => (inElem_leaf (hl u hu)).2.1
    rcases hlf with hlf | ⟨cs, rfl⟩
    · refine ⟨fun slots vals s => ⟨shape_leaf hlf (relI_leafX h hlf), fun i u z hu hz => ?_⟩, hno⟩
      rw [leaves_leaf hlf] at hu; rw [vleaves_leaf (relI_leafX h hlf)] at hz
      cases i with
      | zero => simp at hu hz; subst hu hz; exact (relI_rel h hlf).1 _ _ _ _
      | succ i => simp at hu
    · cases h with
      | agg _ xs hn h =>
        refine ⟨fun slots vals s => ⟨⟨xs, rfl, hn⟩, fun i u z hu hz => ?_⟩, hno⟩
        exact (relI_rel (h i u z hu (by simpa [vleaves] using hz)) (inElem_leaf (hl u (List.mem_of_getElem? hu))).1).1 _ _ _ _
  | ptr o off hl =>
    refine ⟨fun slots vals s => ⟨rfl, fun i u z hu hz => ?_⟩, rfl, by simp [V.leaves, V.own]⟩
    cases i with
    | zero => simp [V.leaves, vleaves] at hu hz; subst hu hz; exact ⟨rfl, hl⟩
    | succ i => simp [V.leaves] at hu
  | map o hl =>
    refine ⟨fun slots vals s => ⟨rfl, fun i u z hu hz => ?_⟩, rfl, by simp [V.leaves, V.own]⟩
    cases i with
    | zero => simp [V.leaves, vleaves] at hu hz; subst hu hz; exact ⟨rfl, hl⟩
    | succ i => simp [V.leaves] at hu
  | iptr cs ad hs h =>
    refine ⟨fun slots vals s => ⟨rfl, fun i u z hu hz => ?_⟩, rfl, by simp [V.leaves, V.own]⟩
    cases i with
    | zero => simp [V.leaves, vleaves] at hu hz; subst hu hz; exact ⟨ad, rfl, hs, h⟩
    | succ i => simp [V.leaves] at hu
  | func f cs xs hn h =>
    refine ⟨fun slots vals s => ⟨rfl, fun i u z hu hz => ?_⟩, rfl, by simp [V.leaves, V.own]⟩
    cases i with
    | zero => simp [V.leaves, vleaves] at hu hz; subst hu hz; exact .func f cs xs hn h
    | succ i => simp [V.leaves] at hu
theorem CoreS.pushCaps : ∀ {caps : List V} {ys : List Value} {hs : List V} {xs : List Value}, CoreS n E σ hs ts xs H → caps.length = ys.length → (∀ (i : Nat) (v : V) (y : Value), caps[i]? = some v → ys[i]? = some y → RelC E σ.objs H v y) → CoreS n E σ (hs ++ caps) ts (xs ++ ys) H
  | [], [], hs, xs, hC, _, _ => by simpa using hC
  | [], _ :: _, _, _, _, h, _ => by simp at h
  | _ :: _, [], _, _, _, h, _ => by simp at h
  | v :: caps, y :: ys, hs, xs, hC, hl, hR => by
    obtain ⟨h1, h2, h3⟩ := relC_slot (hR 0 v y rfl rfl)
    have hC1 := hC.push h3 (h1 _ _ _) (by rw [h2]; intro r hr; cases hr)
    have := hC1.pushCaps (caps := caps) (ys := ys) (by simpa using hl) (fun i u z hu hz => hR (i + 1) u z (by simpa using hu) (by simpa using hz))
    simpa using this
theorem mapM_get {α β : Type} {f : α → Option β} : ∀ {l : List α} {r : List β}, l.mapM f = some r → r.length = l.length ∧ ∀ (i : Nat) (x : α), l[i]? = some x → ∃ y, f x = some y ∧ r[i]? = some y
  | [], r, h => by simp at h; subst h; exact ⟨rfl, fun i x h => by simp at h⟩
  | x :: l, r, h => by
    rw [List.mapM_cons] at h
    simp only [Option.bind_eq_bind, Option.pure_def] at h
    obtain ⟨y, h1, h⟩ := Option.bind_eq_some_iff.1 h
    obtain ⟨r', h2, h⟩ := Option.bind_eq_some_iff.1 h
    cases h
    obtain ⟨g1, g2⟩ := mapM_get h2
    refine ⟨by simp [g1], fun i z hz => ?_⟩
    cases i with
    | zero => simp at hz; subst hz; exact ⟨y, h1, rfl⟩
    | succ i => obtain ⟨y', e1, e2⟩ := g2 i z (by simpa using hz); exact ⟨y', e1, by simpa using e2⟩
theorem objRen_cells {f : Nat → Option Nat} {x y : Obj} (h : objRen f x = some y) : ∃ cs cs', x = .cells cs ∧ y = .cells cs' ∧ rens f (cs.map zero1) = some cs' := by
  cases x with
  | cells cs =>
    simp only [objRen, Option.map_eq_some_iff] at h
    obtain ⟨cs', h1, rfl⟩ := h
    exact ⟨cs, cs', rfl, rfl, h1⟩
  | map => cases h
def CallEnd (n base : Nat) (E : Env) (σ' : St) (hs : List V) (ts xs : List Value) (d : Option Nat) (w : World) : Ending → World → Prop
  | .returned x, w' => ∃ E', CoreS n E' σ' hs (putL ts d x) xs w'.heap ∧ Grow base E w.heap E' w'.heap ∧ WSame w w'
  | _, _ => False
theorem callR_sound {f : FuncId} {first : Nat} {d : Option Nat} {ws hs0 : List V} {xs0 ys : List Value} {E1 : Env} {σ1 : St} (hcallee : ∀ args objs r os, callee f args objs = some (r, os) → Behaves P f args objs r os)
    (hfirst : base ≤ first) (hhl : hs0.length = xs0.length) (hwl : ws.length = ys.length) (hC2 : CoreS n E1 σ1 (hs0 ++ ws) ts (xs0 ++ ys) w.heap) (hG1 : Grow base E w.heap E1 w.heap)
    (hr : (callR callee f first d ws).run σ1 = some σ') :
    Calls P f ys.toArray w (CallEnd n base E σ' hs0 ts xs0 d w) := by
  simp only [callR] at hr
  obtain ⟨hr, hval⟩ := gTheres_run hr
  obtain ⟨ids, hr⟩ := reach_run hr
  obtain ⟨os, hr, hol, hos⟩ := getObjs_run hr
  rw [Prog.run_ite] at hr
  split at hr
  · rename_i hnd
    split at hr
    · rename_i vs' os' hvs hos'
      split at hr
      · rename_i r os2 hcl
        split at hr
        · rename_i r' os3 hren hos3
          rw [Prog.run_ite] at hr
          split at hr
          · cases hr
          · rename_i hchk
            simp only [not_or, Decidable.not_not, Nat.not_lt] at hchk
            obtain ⟨hndall, hle⟩ := hchk
            have hbeh := hcallee _ _ _ _ hcl
            have hz := hbeh.1
            have hcalls := behaves_ret hbeh fun k x hx => by
              obtain ⟨y, h3, _⟩ := (mapM_get hos3).2 k x hx
              obtain ⟨cs, _, e, _⟩ := objRen_cells h3
              exact ⟨cs, e⟩
            obtain ⟨σ2, hr2, s1, s2, s3, s4, s5⟩ := setObjs_run hnd hr
            obtain ⟨σ3, hr3, n1, n2, n3⟩ := newObjs_run hr2
            clear hr hr2
            have hN : (σ1.slots ++ hs0).length = (ts ++ xs0).length := by simp only [List.length_append, hC2.sl, hC2.tl, hhl]
            obtain ⟨ol1, ol2⟩ := mapM_get hos'
            obtain ⟨ol3, ol4⟩ := mapM_get hos3
            have hcore := hC2.core
            rw [← List.append_assoc σ1.slots, ← List.append_assoc ts] at hcore
            have hvl : ∀ {h : Home} {g sz : Nat}, valid σ1.slots σ1.objs h g sz → ∀ l, valid (σ1.slots ++ l) σ1.objs h g sz := by
              intro h g sz hv l
              obtain ⟨u, hu, hg⟩ := hv
              obtain ⟨d4, _⟩ := ct_real' (n := n) (hs := l) hC2.sl hu (by rintro g rfl; cases hg)
              exact ⟨u, d4, hg⟩
            have hsub := hcore.sub (ids := ids) (objs' := os'.map some) (hs := ws) (hs' := vs') hN hnd (by simp [ol1, hol]) (fun k o ho => by
              obtain ⟨cs, h1, h2⟩ := hos k o ho
              obtain ⟨y, h3, h4⟩ := ol2 k _ h1
              obtain ⟨cs1, cs', e1, rfl, h5⟩ := objRen_cells h3
              cases e1
              exact ⟨cs, cs', obj_some h2, by rw [List.getElem?_map, h4]; rfl, h5⟩) hvs (fun v hv u hu h g sz i off e => by
              rw [List.append_assoc]
              exact hvl (hval u (List.mem_flatMap.2 ⟨v, hv, hu⟩) h g sz i off e) _)
            refine (hcalls _ _ w hsub).mono fun e w2 hret => ?_
            cases e with
            | panicked => exact hret
            | outgrown => exact hret
            | returned x =>
              obtain ⟨E2, hO, hG2, hW⟩ := hret
              have hids : os'.length = ids.length := by rw [ol1, hol]
              rw [hids] at hG2
              have hall : ∀ k : Nat, (ids ++ newIds first (os2.length - ids.length))[k]? = if k < ids.length then ids[k]? else if k < os2.length then some (first + (k - ids.length)) else none := by
                intro k
                by_cases hk : k < ids.length
                · rw [if_pos hk, List.getElem?_append_left hk]
                · rw [if_neg hk, List.getElem?_append_right (by omega), newIds_get]
                  by_cases hk2 : k < os2.length
                  · rw [if_pos hk2, if_pos (by omega)]
                  · rw [if_neg hk2, if_neg (by omega)]
              have hdisj : ∀ o, o ∈ ids → ∀ j, j < os2.length - ids.length → o ≠ first + j := by
                intro o ho j hj e
                have := (List.nodup_append.1 hndall).2.2 o ho (first + j) (List.mem_of_getElem? (i := j) (by rw [newIds_get, if_pos hj]))
                exact this e
              have h3len : (os3.drop ids.length).length = os2.length - ids.length := by rw [List.length_drop, ol3]
              have hB : BackObjs ids (ids ++ newIds first (os2.length - ids.length)) σ1.objs (os2.map some) σ3.objs := by
                refine ⟨hndall, fun k o h => ?_, ?_, fun k o h => ?_, fun o ho => ?_, fun k cs h => ?_⟩
                · rw [hall k, if_pos (lt_of_getElem? h)]; exact h
                · simp only [List.length_append, newIds_len, List.length_map]; omega
                · rw [hall k] at h
                  have hk2 : k < os2.length := by
                    split at h
                    · omega
                    · split at h
                      · assumption
                      · cases h
                  obtain ⟨x2, hx2⟩ := exists_getElem? (l := os2) (i := k) hk2
                  obtain ⟨y, h3, h4⟩ := ol4 k x2 hx2
                  obtain ⟨cs2, cr, rfl, rfl, h5⟩ := objRen_cells h3
                  by_cases hk : k < ids.length
                  · rw [if_pos hk] at h
                    obtain ⟨ns, cs, ls, e1, e2, e3, e4, e5⟩ := s4 k o h
                    rw [List.getElem?_take_of_lt hk, h4] at e1
                    cases e1
                    refine ⟨cs2, cr, ls, by rw [List.getElem?_map, hx2]; rfl, ?_, h5, .inl ⟨hk, cs, e2, e3, e4⟩⟩
                    rw [n3 o ?_]
                    · exact e5
                    · rw [h3len]
                      have hd := hdisj o (List.mem_of_getElem? h)
                      rcases Nat.lt_or_ge o first with h | h
                      · exact .inl h
                      · refine .inr ?_
                        rcases Nat.lt_or_ge o (first + (os2.length - ids.length)) with h' | h'
                        · exact absurd (show o = first + (o - first) by omega) (hd (o - first) (by omega))
                        · exact h'
                  · rw [if_neg hk, if_pos hk2] at h
                    cases h
                    obtain ⟨e1, e2⟩ := n2 (k - ids.length) (.cells cr) (by rw [List.getElem?_drop, show ids.length + (k - ids.length) = k by omega]; exact h4)
                    refine ⟨cs2, cr, cr, by rw [List.getElem?_map, hx2]; rfl, e2, h5, .inr ⟨by omega, ?_, rfl⟩⟩
                    rw [← s5 _ (fun hm => hdisj _ hm (k - ids.length) (by omega) rfl)]; exact e1
                · simp only [List.mem_append, not_or] at ho
                  rw [n3 o ?_, s5 o ho.1]
                  rw [h3len]
                  rcases Nat.lt_or_ge o first with h | h
                  · exact .inl h
                  · refine .inr ?_
                    rcases Nat.lt_or_ge o (first + (os2.length - ids.length)) with h' | h'
                    · exact absurd (List.mem_of_getElem? (i := o - first) (by rw [newIds_get, if_pos (by omega)]; congr 1; omega)) ho.2
                    · exact h'
                · rw [List.getElem?_map] at h
                  obtain ⟨x2, hx2, e⟩ := Option.map_eq_some_iff.1 h
                  cases e
                  exact hz k cs hx2
              have hslots : σ3.slots = σ1.slots := n1.trans s1
              have hC3 : CoreS n E1 σ1 hs0 ts xs0 w.heap := CoreS.pops (vs := ws) (ys := ys) ws.length rfl hwl.symm hC2
              have hfin : ∀ r2, (r2 = r' ∨ ∃ h g g' sz i off, r' = .ptr (.elem h g sz i off) ∧ r2 = .ptr (.elem h g' sz i off) ∧ ∃ w, ct (σ1.slots ++ hs0) σ3.objs h = some w ∧ g' < w.nextg) → (putO d r2 .ret).run σ3 = some σ' → CallEnd n base E σ' hs0 ts xs0 d w (.returned x) w2 := by
                intro r2 h1 h2
                have hback := hC3.core.back hB hO hG2 hren h1
                have hGb := Grow.back (base := base) hB hC3.core.fresh hG2 (fun k o hk ho => by
                  rw [hall k, if_neg (by omega)] at ho
                  split at ho
                  · cases ho; omega
                  · cases ho)
                have hC4 : CoreS n (E1.back (E1.sub ids (σ1.slots ++ hs0).length) E2 (ids ++ newIds first (os2.length - ids.length)) (σ1.slots ++ hs0).length) σ3 (hs0 ++ [r2]) ts (xs0 ++ [x]) w2.heap := by
                  refine ⟨by rw [hslots]; exact hC2.sl, hC2.tl, ?_⟩
                  rw [hslots, ← List.append_assoc, ← List.append_assoc]; exact hback
                obtain ⟨E5, σ5, k1, k2, _, k3⟩ := putO_sound (base := base) hC4 h2
                cases k3
                exact ⟨E5, k1, (hG1.trans hGb).trans k2, hW⟩
              rcases resRef_run hr3 with h | ⟨h, g, g', sz, i, off, w0, e, hw, hng, hlt, h2⟩
              · exact hfin r' (.inl rfl) h
              · refine hfin _ (.inr ⟨h, g, g', sz, i, off, e, rfl, w0, ?_, hlt⟩) h2
                rw [hslots] at hw
                exact (ct_real' (n := n) (σ := ⟨σ1.slots, σ3.objs⟩) (hs := hs0) hC2.sl hw hng).1
        · cases hr
      · cases hr
    · cases hr
  · cases hr
theorem callF_sound {f : FuncId} {first : Nat} {d : Option Nat} {as : List (Operand × TypeId)} {args : List Opd} {caps hs0 : List V} {xs0 capys : List Value} (hcallee : ∀ args objs r os, callee f args objs = some (r, os) → Behaves P f args objs r os)
    (hm : (as.mapM fun (x, t) => opd P t x) = some args) (hfirst : base ≤ first) (hC : CoreS n E σ hs0 a.tmps.toList xs0 w.heap)
    (hcap : ∀ (E1 : Env) (σ1 : St) (hs : List V) (xs : List Value), CoreS n E1 σ1 (hs0 ++ hs) a.tmps.toList (xs0 ++ xs) w.heap → CoreS n E1 σ1 (hs0 ++ hs ++ caps) a.tmps.toList (xs0 ++ xs ++ capys) w.heap)
    (hr : (callP callee false f first d args caps).run σ = some σ') :
    Calls P f ((as.map fun q => a.eval q.1) ++ capys).toArray w (CallEnd n base E σ' hs0 a.tmps.toList xs0 d w) := by
  have hr : (lendArgs args fun vs => callR callee f first d (vs ++ caps)).run σ = some σ' := hr
  obtain ⟨E1, σ1, vs, hC1, hG1, hr⟩ := lendArgs_sound (base := base) a hm hC hr
  have hC2 := hcap E1 σ1 vs _ hC1
  rw [List.append_assoc, List.append_assoc] at hC2
  have hl := hC2.hl
  have h0 := hC.hl
  simp only [List.length_append] at hl h0
  exact callR_sound hcallee hfirst h0 (by simp only [List.length_append]; omega) hC2 hG1 hr
end
end Go.Vq
namespace Go.Vq
def EnterOk (P : Program) (f : FuncId) : Prop := ∃ fn, P.funcs[f]? = some fn ∧ fn.body.isSome = true ∧ (fn.name == "runtime.NumGoroutine") = false
def CalleeOk (P : Program) (callee : Callee) : Prop := ∀ f args objs r os, callee f args objs = some (r, os) → EnterOk P f ∧ Behaves P f args objs r os
section
variable {P : Program} {n base : Nat} {E E' E2 : Env} {σ σ' : St} {hs : List V} {ts xs : List Value} {H H' H2 : Array Go.Obj}
variable {callee : Callee} {o : Oper} {a : Act} {w : World} {next : Act → World → Prop} {Q : Exit → Act → World → Prop}
theorem idsIn_append : ∀ (l m : List V), V.objIds.idsIn (l ++ m) = V.objIds.idsIn l ++ V.objIds.idsIn m
  | [], m => rfl
  | v :: l, m => by simp [V.objIds.idsIn, idsIn_append l m]
theorem idsIn_nil : ∀ {l : List V}, V.objIds.idsIn l = [] → ∀ v ∈ l, v.objIds = []
  | [], _, v, h => by cases h
  | u :: l, h0, v, h => by
    simp only [V.objIds.idsIn, List.append_eq_nil_iff] at h0
    rcases List.mem_cons.1 h with rfl | h
    · exact h0.1
    · exact idsIn_nil h0.2 v h
theorem callA_sound {f : FuncId} {first : Nat} {d : Option Nat} {as : List (Operand × TypeId)} {args : List Opd} {caps : List V} {capys : List Value} (hcallee : ∀ args objs r os, callee f args objs = some (r, os) → Behaves P f args objs r os)
    (hm : (as.mapM fun (x, t) => opd P t x) = some args) (hC : CoreS n E σ [] a.tmps.toList [] w.heap) (hcl : caps.length = capys.length) (hcap : ∀ (i : Nat) (v : V) (y : Value), caps[i]? = some v → capys[i]? = some y → RelC E σ.objs w.heap v y)
    (hr : (callP callee true f first d args caps).run σ = some σ') :
    Calls P f ((as.map fun q => a.eval q.1) ++ capys).toArray w (CallEnd n base E σ' [] a.tmps.toList [] d w) := by
  simp only [callP, if_true] at hr
  obtain ⟨vs, hr, hl, hall⟩ := presArgs_sound a hC hm hr
  rw [Prog.run_ite] at hr
  split at hr
  · rename_i hids
    split at hr
    · rename_i r hcall
      rw [Prog.run_ite] at hr
      split at hr
      · rename_i hap
        have hcalls := behaves_ret (hcallee _ _ _ _ hcall) (fun k x h => by simp at h)
        rw [idsIn_append, List.append_eq_nil_iff] at hids
        have hany : ∀ (i : Nat) (v : V) (y : Value), (vs ++ caps)[i]? = some v → ((as.map fun q => a.eval q.1) ++ capys)[i]? = some y → (∀ (slots : List V) (vals : List Value) (s : Nat), SlotRel (E.apSub w.heap) slots [] vals w.heap s v y) ∧ v.refs = [] := by
          intro i v y hv hy
          have hln : vs.length = (as.map fun q => a.eval q.1).length := by simp [hl]
          rcases Nat.lt_or_ge i vs.length with hlt | hge
          · rw [List.getElem?_append_left hlt] at hv
            rw [List.getElem?_append_left (hln ▸ hlt), List.getElem?_map] at hy
            obtain ⟨q, hq, rfl⟩ := Option.map_eq_some_iff.1 hy
            have h := hall i v q hv hq
            exact ⟨fun slots vals s => h.rel slots [] vals s, h.refs⟩
          · rw [List.getElem?_append_right hge] at hv
            rw [List.getElem?_append_right (hln ▸ hge), ← hln] at hy
            have h := (hcap _ v y hv hy).mono (E' := E.apSub w.heap) (objs' := []) (H' := w.heap) (ap_c1 w.heap) (fun o ho => by rw [idsIn_nil hids.2 v (List.mem_of_getElem? hv)] at ho; cases ho)
            exact ⟨(relC_slot h).1, (relC_slot h).2.1⟩
        have hin : Core 0 (E.apSub w.heap) (vs ++ caps) (([] : List Obj).map some) ((as.map fun q => a.eval q.1) ++ capys) w.heap := by
          refine ⟨by simp [hl, hcl], Nat.zero_le _, fun s v x hv hx => (hany s v x hv hx).1 _ _ _, fun o cs h => by simp at h, fun b hb => ?_, fun s v hv q hq => ?_⟩
          · simp only [Env.apSub, hC.core.fresh b hb, apTag]
          · obtain ⟨y, hy⟩ := exists_getElem? (l := (as.map fun q => a.eval q.1) ++ capys) (i := s) (by have := lt_of_getElem? hv; simp [hl, hcl] at this ⊢; omega)
            rw [(hany s v y hv hy).2] at hq; cases hq
        refine (hcalls _ _ w hin).mono fun e w2 hret => ?_
        cases e with
        | panicked => exact hret
        | outgrown => exact hret
        | returned x =>
          obtain ⟨E2, hO, hG2, hW⟩ := hret
          obtain ⟨hC3, hG3⟩ := ap_back (base := base) hC hO hG2 hap
          obtain ⟨E5, σ5, k1, k2, _, k3⟩ := putO_sound (base := base) (hs := []) (xs := []) hC3 hr
          cases k3
          exact ⟨E5, k1, hG3.trans k2, hW⟩
      · cases hr
    · cases hr
  · cases hr
theorem callFunc_run {f : FuncId} {args : Array Value} (he : EnterOk P f) : (callFunc f args).run P w = .ok (.enter f args) w := by
  obtain ⟨fn, h1, h2, h3⟩ := he
  have h4 : fn.body.isNone = false := by cases hb : fn.body <;> simp [hb] at h2 ⊢
  simp only [callFunc, Sem.run_bind, run_program, Result.andThen_ok, h1, h3, h4]
  simp
def argTys (c : Call) : List (Operand × TypeId) := c.args.toList.zip (c.argTypes.toList ++ List.replicate c.args.size 0)
theorem argTys_fst (c : Call) : (argTys c).map (·.1) = c.args.toList := by
  unfold argTys
  rw [List.map_fst_zip]
  simp
theorem argTys_eval (c : Call) (a : Act) : ((argTys c).map fun q => a.eval q.1) = c.args.toList.map a.eval := by
  rw [← argTys_fst c, List.map_map]; rfl
theorem op_call {c : Call} {ap : Bool} {f : FuncId} {site : Nat} {args : List Opd} (hcallee : CalleeOk P callee) (ho : o.op = .call c) (hc : c.callee = .value (.func f)) (hm : ((argTys c).mapM fun (x, t) => opd P t x) = some args) (hC : CoreS n E σ [] a.tmps.toList [] w.heap)
    (hr : (opProg callee base o.dst (.call ap f site args)).run σ = some σ') (K : NextOk n base E σ' a w next) : o.upon P a next Q ((execOp a.eval o).run P w) := by
  change (callP callee ap f (base + site) o.dst args []).run σ = some σ' at hr
  have hcalls : EnterOk P f ∧ Calls P f ((argTys c).map fun q => a.eval q.1).toArray w (CallEnd n base E σ' [] a.tmps.toList [] o.dst w) := by
    have hent : (∃ args objs r os, callee f args objs = some (r, os)) → EnterOk P f := fun ⟨_, _, _, _, h⟩ => (hcallee f _ _ _ _ h).1
    cases ap with
    | true =>
      have h1 := callA_sound (base := base) (capys := []) (fun args objs r os h => (hcallee f args objs r os h).2) hm hC rfl (fun i v y h => by simp at h) hr
      rw [List.append_nil] at h1
      refine ⟨hent ?_, h1⟩
      simp only [callP, if_true] at hr
      obtain ⟨vs, hr, _⟩ := presArgs_sound a hC hm hr
      rw [Prog.run_ite] at hr
      split at hr
      · split at hr
        · exact ⟨_, _, _, _, by assumption⟩
        · cases hr
      · cases hr
    | false =>
      have h1 := callF_sound (base := base) (capys := []) (hs0 := []) (xs0 := []) (fun args objs r os h => (hcallee f args objs r os h).2) hm (Nat.le_add_right _ _) hC (fun E1 σ1 hs xs h => by simpa using h) hr
      rw [List.append_nil] at h1
      refine ⟨hent ?_, h1⟩
      simp only [callP, Bool.false_eq_true, if_false] at hr
      obtain ⟨_, _, vs, _, _, hr⟩ := lendArgs_sound (base := base) a hm hC hr
      obtain ⟨hr, _⟩ := gTheres_run hr
      obtain ⟨ids, hr⟩ := reach_run hr
      obtain ⟨os, hr, _⟩ := getObjs_run hr
      rw [Prog.run_ite] at hr
      split at hr
      · split at hr
        · split at hr
          · exact ⟨_, _, _, _, by assumption⟩
          · cases hr
        · cases hr
      · cases hr
  obtain ⟨hent, hcalls⟩ := hcalls
  have hrun : (execOp a.eval o).run P w = .ok (.enter f (c.args.map a.eval)) w := by
    simp only [execOp, ho, resolve, hc, Act.eval, Deferred.ofValue, Sem.run_bind, Sem.run_pure, Result.andThen_ok, invoke]
    rw [show (#[] ++ c.args.map a.eval ++ #[] : Array Value) = c.args.map a.eval by simp]
    exact callFunc_run hent
  rw [hrun, Oper.upon_enter]
  have harr : ((argTys c).map fun q => a.eval q.1).toArray = c.args.map a.eval := by rw [argTys_eval]; apply Array.ext'; simp
  rw [harr] at hcalls
  refine hcalls.mono fun e w2 hret => ?_
  cases e with
  | panicked => exact hret.elim
  | outgrown => exact hret.elim
  | returned x =>
    obtain ⟨E', h1, h2, h3⟩ := hret
    exact K E' _ w2 (by rw [put_toList]; exact h1) h2 h3 (put_defers _ _ _)
theorem op_callm {c : Call} {mv : Nat} {f : FuncId} {site : Nat} {args : List Opd} (hcallee : CalleeOk P callee) (ho : o.op = .call c) (hc : c.callee = .value (.func f)) (hm : ((argTys c).mapM fun (x, t) => opd P t x) = some args) (hC : CoreS n E σ [] a.tmps.toList [] w.heap)
    (hr : (opProg callee base o.dst (.callm mv f site args)).run σ = some σ') (K : NextOk n base E σ' a w next) : o.upon P a next Q ((execOp a.eval o).run P w) := by
  change (moveArgs mv args fun vs => callR callee f (base + site) o.dst vs).run σ = some σ' at hr
  have hcalls : EnterOk P f ∧ Calls P f ((argTys c).map fun q => a.eval q.1).toArray w (CallEnd n base E σ' [] a.tmps.toList [] o.dst w) := by
    have hent : (∃ args objs r os, callee f args objs = some (r, os)) → EnterOk P f := fun ⟨_, _, _, _, h⟩ => (hcallee f _ _ _ _ h).1
    obtain ⟨E1, σ1, vs, hC1, hG1, hr⟩ := moveArgs_sound (base := base) a hm hC hr
    have hl := hC1.hl
    simp only [List.nil_append] at hl
    refine ⟨hent ?_, callR_sound (hs0 := []) (xs0 := []) (fun args objs r os h => (hcallee f args objs r os h).2) (Nat.le_add_right _ _) rfl hl hC1 hG1 hr⟩
    simp only [callR] at hr
    obtain ⟨hr, _⟩ := gTheres_run hr
    obtain ⟨ids, hr⟩ := reach_run hr
    obtain ⟨os, hr, _⟩ := getObjs_run hr
    rw [Prog.run_ite] at hr
    split at hr
    · split at hr
      · split at hr
        · exact ⟨_, _, _, _, by assumption⟩
        · cases hr
      · cases hr
    · cases hr
  obtain ⟨hent, hcalls⟩ := hcalls
  have hrun : (execOp a.eval o).run P w = .ok (.enter f (c.args.map a.eval)) w := by
    simp only [execOp, ho, resolve, hc, Act.eval, Deferred.ofValue, Sem.run_bind, Sem.run_pure, Result.andThen_ok, invoke]
    rw [show (#[] ++ c.args.map a.eval ++ #[] : Array Value) = c.args.map a.eval by simp]
    exact callFunc_run hent
  rw [hrun, Oper.upon_enter]
  have harr : ((argTys c).map fun q => a.eval q.1).toArray = c.args.map a.eval := by rw [argTys_eval]; apply Array.ext'; simp
  rw [harr] at hcalls
  refine hcalls.mono fun e w2 hret => ?_
  cases e with
  | panicked => exact hret.elim
  | outgrown => exact hret.elim
  | returned x =>
    obtain ⟨E', h1, h2, h3⟩ := hret
    exact K E' _ w2 (by rw [put_toList]; exact h1) h2 h3 (put_defers _ _ _)
theorem grew_old {H os : Array Go.Obj} {b : Nat} (h : b < H.size) : (H ++ os)[b]? = H[b]? := by rw [Array.getElem?_append_left h]
theorem CoreS.grew {os : Array Go.Obj} (hC : CoreS n E σ hs ts xs H) : CoreS n E σ hs ts xs (H ++ os) ∧ Grow base E H E (H ++ os) := by
  have hf := hC.core.fresh
  have hlt : ∀ b, E.tag b ≠ .other → b < H.size := fun b hb => by
    rcases Nat.lt_or_ge b H.size with h | h
    · exact h
    · exact absurd (hf b h) hb
  have hi : ∀ b i, E.imm b i → cellAt (H ++ os) b i = cellAt H b i := fun b i h => by
    unfold cellAt
    rw [grew_old (hlt b (by intro e; simp [Env.imm, e] at h))]
  refine ⟨⟨hC.sl, hC.tl, hC.core.change rfl (fun b i h => ⟨h, hi b i h⟩) (fun b t ht hc => ⟨ht, grew_old (hlt b ?_)⟩) (fun b hb => hf b ?_)⟩, ?_⟩
  · rw [ht]; rcases hc with ⟨o, rfl⟩ | ⟨h, rfl | ⟨m, rfl⟩, _⟩ <;> simp
  · simp only [Array.size_append] at hb; omega
  · refine ⟨by simp, fun b i h => ⟨h, hi b i h⟩, fun b hb ho => ⟨ho, grew_old hb⟩, fun b h => ⟨h, grew_old (hlt b (by rw [h]; simp))⟩, fun b m h => ⟨h, grew_old (hlt b (by rw [h]; simp))⟩, fun _ _ => rfl⟩
theorem op_calli {c : Call} {f : FuncId} {site : Nat} {args : List Opd} (hcallee : CalleeOk P callee) (ho : o.op = .call c) (hc : c.callee = .value (.func f)) (hm : ((argTys c).mapM fun (x, t) => opd P t x) = some args) (hC : CoreS n E σ [] a.tmps.toList [] w.heap)
    (hr : (opProg callee base o.dst (.calli f site args)).run σ = some σ') (K : NextOk n base E σ' a w next) : o.upon P a next Q ((execOp a.eval o).run P w) := by
  change (calliP callee f o.dst args).run σ = some σ' at hr
  unfold calliP at hr
  obtain ⟨x', rfl⟩ : ∃ x', args = [x'] := by
    match args, hr with
    | [x'], _ => exact ⟨x', rfl⟩
    | [], hr => cases hr
    | _ :: _ :: _, hr => cases hr
  have harg : ∃ q : Operand × TypeId, argTys c = [q] ∧ opd P q.2 q.1 = some x' := by
    obtain ⟨hml, hmg⟩ := mapM_get hm
    cases hat : argTys c with
    | nil => rw [hat] at hml; simp at hml
    | cons q qs =>
      rw [hat] at hml hmg
      obtain ⟨y, h5, h6⟩ := hmg 0 q rfl
      simp at h6
      subst h6
      cases qs with
      | nil => exact ⟨q, rfl, h5⟩
      | cons _ _ => simp at hml
  obtain ⟨q, hq, hopd⟩ := harg
  have hok := opd_ok a hopd
  have harr : #[a.eval q.1] = c.args.map a.eval := by
    have : ((argTys c).map fun q => a.eval q.1).toArray = c.args.map a.eval := by rw [argTys_eval]; apply Array.ext'; simp
    rw [← this, hq]; rfl
  obtain ⟨v, hr, ⟨s0, hS, hs'⟩, hrf, hh1, hh2⟩ := opd_rel (v := .nil) hC hok hr
  clear hh1 hh2 hs'
  have hend : ∀ {H1 : Array Go.Obj} {σ1 : St}, EnterOk P f → CoreS n E σ1 [] a.tmps.toList [] H1 → Grow base E w.heap E H1 → (putO o.dst (.tup []) .ret).run σ1 = some σ' →
      Calls P f #[a.eval q.1] w (fun e w' => e = .returned (.tuple #[]) ∧ Grew { w with heap := H1 } w') → o.upon P a next Q ((execOp a.eval o).run P w) := by
    intro H1 σ1 hent hC1 hG1 hput hcalls
    have hrun : (execOp a.eval o).run P w = .ok (.enter f (c.args.map a.eval)) w := by
      simp only [execOp, ho, resolve, hc, Act.eval, Deferred.ofValue, Sem.run_bind, Sem.run_pure, Result.andThen_ok, invoke]
      rw [show (#[] ++ c.args.map a.eval ++ #[] : Array Value) = c.args.map a.eval by simp]
      exact callFunc_run hent
    rw [hrun, Oper.upon_enter]
    rw [harr] at hcalls
    refine hcalls.mono fun e w2 hret => ?_
    obtain ⟨rfl, ⟨os, hheap⟩, hW⟩ := hret
    have h2 := hC1.grew (base := base) (os := os)
    have hpush : CoreS n E σ1 ([] ++ [.tup []]) a.tmps.toList ([] ++ [.tuple #[]]) (H1 ++ os) := h2.1.push (by simp [V.leaves]) ⟨⟨#[], rfl, rfl, fun i v x h => by simp at h⟩, fun i u y h => by simp [V.leaves] at h⟩ (by intro r hr; cases hr)
    obtain ⟨E5, σ5, k1, k2, _, k3⟩ := putO_sound (base := base) hpush hput
    cases k3
    refine K E5 _ w2 (by rw [put_toList, hheap]; exact k1) (by rw [hheap]; exact (hG1.trans h2.2).trans k2) ⟨hW.os, hW.output, hW.tape⟩ (put_defers _ _ _)
  cases v <;> first | (cases hr; done) | skip
  case nilS sz =>
    simp only at hr
    split at hr
    · rename_i hcl
      obtain ⟨hent, hbeh⟩ := hcallee _ _ _ _ _ hcl
      obtain ⟨sz1, es1, g1, fs1, e1, _, h0, _⟩ : InplOk P f _ _ := hbeh.2
      cases e1
      obtain ⟨_, hR⟩ := rel_leaf hS rfl (fun g => by simp)
      have hx : a.eval q.1 = .slice none 0 0 := by
        have hR : RelI E.imm w.heap (.nilS sz) (a.eval q.1) := hR
        generalize a.eval q.1 = y at hR
        cases hR; rfl
      refine hend hent hC (Grow.refl _ _ _) hr ?_
      rw [hx]
      exact h0 rfl none 0 w
    · cases hr
  case srf h g sz off len =>
    simp only at hr
    obtain ⟨_, hR⟩ := rel_leaf hS rfl (fun g => by simp)
    obtain ⟨a', c', e1, e2, e3, e4, e5⟩ := hR
    replace hr := gElems_run hr
    obtain ⟨u1, own, es, hu1, hk, hr⟩ := hr
    rw [Prog.run_ite] at hr
    split at hr
    rotate_left
    · cases hr
    rename_i hcnd
    obtain ⟨rfl, rfl, hlen, hbig⟩ := hcnd
    subst hlen
    rcases hk with ⟨rfl, _⟩ | ⟨_, hf⟩
    rotate_left
    · cases hf
    split at hr
    rotate_left
    · cases hr
    rename_i g0 sz' fs mm hcl
    obtain ⟨hent, hbeh⟩ := hcallee _ _ _ _ _ hcl
    obtain ⟨sz1, es1, g1, fs1, q1, q2, h0, h1⟩ : InplOk P f _ _ := hbeh.2
    cases q1
    cases q2
    rw [Prog.run_ite] at hr
    split at hr
    rotate_left
    · cases hr
    rename_i hfs
    rw [Prog.run_ite] at hr
    split at hr
    · rename_i hz
      have : es = [] := List.eq_nil_of_length_eq_zero hz
      subst this
      refine hend hent hC (Grow.refl _ _ _) hr ?_
      rw [e1]
      exact h0 rfl _ _ w
    · rename_i hz
      have hne : es ≠ [] := fun e => hz (by rw [e]; rfl)
      obtain ⟨d4, _⟩ := ct_real' (n := n) (hs := []) hC.sl hu1 (fun g => by simp)
      obtain ⟨y, a0, cap, f1, f2, f3, _, _⟩ := hC.core.homeView d4 (.inl rfl)
      have hvl : valid (σ.slots ++ []) σ.objs h g sz := ⟨_, d4, rfl⟩
      have hle2 := f2.le
      obtain ⟨ad, arr, T, fr, b1, b2, b3, b4, b5⟩ := f3 rfl (by omega)
      subst b1
      obtain ⟨a1, l1, c1, w1, w2⟩ := e5 hvl
      rw [f1] at w1
      have e6 := f2.eq
      rw [e6] at w1
      injection w1 with w1
      injection w1 with w3 w4 w5
      subst w3 w5
      obtain ⟨ad', w6, w7, w8⟩ := w2 (by omega)
      cases w6
      subst w7
      obtain ⟨ab, ao, asp⟩ := ad
      have hsp : asp = none := f2.spot ⟨ab, ao, asp⟩ rfl (by omega)
      subst hsp
      have hmul : es.length * sz ≤ cap * sz := Nat.mul_le_mul_right _ hle2
      simp only [Nat.zero_mul, Nat.add_zero] at e1
      have hcalls := h1 hne E.imm w ⟨ab, ao, none⟩ c' arr T fr b3 b5 (by omega) rfl e2 hbig f2.elems (by rintro b j hb rfl; simp [Env.imm, b2] at hb)
      obtain ⟨_, hr⟩ := sHome_run hr
      have hrun : (execOp a.eval o).run P w = .ok (.enter f (c.args.map a.eval)) w := by
        simp only [execOp, ho, resolve, hc, Act.eval, Deferred.ofValue, Sem.run_bind, Sem.run_pure, Result.andThen_ok, invoke]
        rw [show (#[] ++ c.args.map a.eval ++ #[] : Array Value) = c.args.map a.eval by simp]
        exact callFunc_run hent
      rw [hrun, Oper.upon_enter, ← harr, e1]
      refine hcalls.mono fun e w2 hret => ?_
      obtain ⟨rfl, arr', hsz', hE, ⟨os, hheap⟩, hW⟩ := hret
      have hC2 := hC.writeHome (arr' := arr') hu1 (by simp only [List.append_nil] at f1 ⊢; rw [f1, e6]) b2 b3 hsz' hfs.2 hE
      have hG2 : Grow base E w.heap E (w.heap.setIfInBounds ab (.cells arr' T fr)) := Grow.writeHome b2
      have h2 := CoreS.grew (base := base) (os := os) hC2
      have hpush := h2.1.push (v := .tup []) (x := .tuple #[]) (by simp [V.leaves]) ⟨⟨#[], rfl, rfl, fun i v x h => by simp at h⟩, fun i u y h => by simp [V.leaves] at h⟩ (by intro r hr; cases hr)
      obtain ⟨E5, σ5, k1, k2, _, k3⟩ := putO_sound (base := base) hpush hr
      cases k3
      exact K E5 _ w2 (by rw [put_toList, hheap]; exact k1) (by rw [hheap]; exact (hG2.trans h2.2).trans k2) ⟨hW.os, hW.output, hW.tape⟩ (put_defers _ _ _)
theorem op_callv {c : Call} {ap : Bool} {x : Operand} {x' : Opd} {site : Nat} {args : List Opd} (hcallee : CalleeOk P callee) (ho : o.op = .call c) (hc : c.callee = .value x) (hx : opd0 x = some x') (hm : ((argTys c).mapM fun (x, t) => opd P t x) = some args) (hC : CoreS n E σ [] a.tmps.toList [] w.heap)
    (hr : (opProg callee base o.dst (.callv ap x' site args)).run σ = some σ') (K : NextOk n base E σ' a w next) : o.upon P a next Q ((execOp a.eval o).run P w) := by
  obtain ⟨v, hr2, ⟨s, hS, hs'⟩, hrest⟩ := opd_rel (v := .nil) hC (opd0_ok a hx) hr
  clear hrest hs' hr
  cases v <;> first | (cases hr2; done) | skip
  rename_i f caps
  change (callP callee ap f (base + site) o.dst args caps).run σ = some σ' at hr2
  obtain ⟨_, hR⟩ := rel_leaf hS rfl (fun g => by simp)
  have hf : ∃ ys : Array Value, a.eval x = .func (.func f) #[] ys ∧ caps.length = ys.size ∧ ∀ (i : Nat) (v : V) (y : Value), caps[i]? = some v → ys[i]? = some y → RelC E σ.objs w.heap v y := by
    generalize a.eval x = y at hR
    cases hR with
    | imm _ _ h => cases h
    | func _ _ ys hn h => exact ⟨ys, rfl, hn, h⟩
  obtain ⟨ys, hev, hyl, hyr⟩ := hf
  have hent : (∃ args objs r os, callee f args objs = some (r, os)) → EnterOk P f := fun ⟨_, _, _, _, h⟩ => (hcallee f _ _ _ _ h).1
  have hcalls : EnterOk P f ∧ Calls P f (((argTys c).map fun q => a.eval q.1) ++ ys.toList).toArray w (CallEnd n base E σ' [] a.tmps.toList [] o.dst w) := by
    cases ap with
    | true =>
      have h1 := callA_sound (base := base) (capys := ys.toList) (fun args objs r os h => (hcallee f args objs r os h).2) hm hC (by simpa using hyl) (fun i v y h1 h2 => hyr i v y h1 (by simpa using h2)) hr2
      refine ⟨hent ?_, h1⟩
      simp only [callP, if_true] at hr2
      obtain ⟨vs, hr, _⟩ := presArgs_sound a hC hm hr2
      rw [Prog.run_ite] at hr
      split at hr
      · split at hr
        · exact ⟨_, _, _, _, by assumption⟩
        · cases hr
      · cases hr
    | false =>
      have hC1 : CoreS n E σ ([] ++ [.func f caps]) a.tmps.toList ([] ++ [a.eval x]) w.heap := hC.pushLeaf rfl rfl hR (by intro r hr; cases hr)
      have h1 := callF_sound (base := base) (capys := ys.toList) (caps := caps) (hs0 := [.func f caps]) (xs0 := [a.eval x]) (fun args objs r os h => (hcallee f args objs r os h).2) hm (Nat.le_add_right _ _) hC1 (fun E1 σ1 hs xs h => by
        refine h.pushCaps (by simpa using hyl) fun i v y hv hy => ?_
        have hS1 := h.core.slot n (.func f caps) (a.eval x) (by rw [List.getElem?_append_right (by rw [h.sl]; exact Nat.le_refl _), h.sl]; simp) (by rw [List.getElem?_append_right (by rw [h.tl]; exact Nat.le_refl _), h.tl]; simp)
        obtain ⟨_, hR1⟩ := rel_leaf hS1 rfl (fun g => by simp)
        rw [hev] at hR1
        cases hR1 with
        | imm _ _ h => cases h
        | func _ _ _ hn h => exact h i v y hv (by simpa using hy)) hr2
      refine ⟨hent ?_, h1.mono fun e w2 hret => ?_⟩
      · simp only [callP, Bool.false_eq_true, if_false] at hr2
        obtain ⟨_, _, vs, _, _, hr⟩ := lendArgs_sound (base := base) a hm hC hr2
        obtain ⟨hr, _⟩ := gTheres_run hr
        obtain ⟨ids, hr⟩ := reach_run hr
        obtain ⟨os, hr, _⟩ := getObjs_run hr
        rw [Prog.run_ite] at hr
        split at hr
        · split at hr
          · split at hr
            · exact ⟨_, _, _, _, by assumption⟩
            · cases hr
          · cases hr
        · cases hr
      · cases e with
        | panicked => exact hret
        | outgrown => exact hret
        | returned z =>
          obtain ⟨E', h1, h2, h3⟩ := hret
          exact ⟨E', CoreS.pop (hs := []) (xs := []) h1, h2, h3⟩
  obtain ⟨hent, hcalls⟩ := hcalls
  have hrun : (execOp a.eval o).run P w = .ok (.enter f (c.args.map a.eval ++ ys)) w := by
    simp only [execOp, ho, resolve, hc, hev, Deferred.ofValue, Sem.run_bind, Sem.run_pure, Result.andThen_ok, invoke]
    rw [show (#[] ++ c.args.map a.eval ++ ys : Array Value) = c.args.map a.eval ++ ys by simp]
    exact callFunc_run hent
  rw [hrun, Oper.upon_enter]
  have harr : (((argTys c).map fun q => a.eval q.1) ++ ys.toList).toArray = c.args.map a.eval ++ ys := by rw [argTys_eval]; apply Array.ext'; simp
  rw [harr] at hcalls
  refine hcalls.mono fun e w2 hret => ?_
  cases e with
  | panicked => exact hret.elim
  | outgrown => exact hret.elim
  | returned z =>
    obtain ⟨E', h1, h2, h3⟩ := hret
    exact K E' _ w2 (by rw [put_toList]; exact h1) h2 h3 (put_defers _ _ _)
theorem modify_set {H : Array Go.Obj} {b : Nat} {x : Go.Obj} (f : Go.Obj → Go.Obj) (h : H[b]? = some x) : H.modify b f = H.setIfInBounds b (f x) := by
  have hlt := lt_of_getElem?' h
  apply Array.ext_getElem?
  intro j
  rw [Array.getElem?_modify]
  by_cases hj : b = j
  · subst hj; rw [if_pos rfl, h, Array.getElem?_setIfInBounds_self_of_lt hlt]; rfl
  · rw [if_neg hj, Array.getElem?_setIfInBounds_ne hj]
theorem open_more {f : Nat × Nat} {m : Nat} (h : open_ f m) : open_ (if f.1 == f.2 then (m, m + 1) else (min f.1 m, max f.2 (m + 1))) m := by
  obtain ⟨h1, h2⟩ := h
  by_cases e : f.1 = f.2
  · rw [if_pos (by simpa using e)]
    exact ⟨by simp, fun i hi => by simp only; omega⟩
  · rw [if_neg (by simpa using e)]
    have h3 : m ≤ f.1 := by
      rcases Nat.lt_or_ge f.1 m with h | h
      · exact absurd ⟨Nat.le_refl _, by omega⟩ (h2 f.1 h)
      · exact h
    exact ⟨by simp only; omega, fun i hi => by simp only; omega⟩
theorem op_convLit {t t' e0 e : TypeId} {x : Operand} {x' : Opd} (ho : o.op = .convert t t' x) (h1 : under P t = some (.slice e0)) (h2 : under P t' = some (.slice e)) (h3 : under P e = some (.int .u8)) (htt : t = t') (hx : opd P t x = some x') (hC : CoreS n E σ [] a.tmps.toList [] w.heap)
    (hr : (opProg callee base o.dst (.conv .lit x')).run σ = some σ') (K : NextOk n base E σ' a w next) : o.upon P a next Q ((execOp a.eval o).run P w) := by
  have hok := opd_ok a hx
  obtain ⟨v, hr2, hv, hrf, hh1, hh2⟩ := opd_rel (v := .nil) hC hok hr
  clear hr
  have hr3 : ∃ g sz c es, v = .xsl g sz (c :: es) ∧ (drain x' (putO o.dst (.xsl 0 sz (c :: es)) .ret)).run σ = some σ' := by
    cases v <;> first | (cases hr2; done) | skip
    rename_i g sz es
    cases es with
    | nil => cases hr2
    | cons c es => exact ⟨g, sz, c, es, rfl, hr2⟩
  obtain ⟨g, sz, c, es, rfl, hr3⟩ := hr3
  obtain ⟨E1, σ1, b1, b2, _, b4⟩ := grab_sound (base := base) hC hv hrf hh1 hh2 hok hr3
  obtain ⟨_, hR⟩ := rel_leaf (hand_rel (hs := []) (xs := []) b1) rfl (fun g => by simp)
  obtain ⟨a0, cap, e1, e2, e3, e4, e5, e6⟩ := hR
  obtain ⟨ad, arr, T, f, f1, f2, f3, f4, f5⟩ := e5 (by simp only [List.length_cons] at e2; omega)
  subst f1
  simp only [List.length_nil, Nat.add_zero] at f2
  have hC0 := b1.popOwn
  have hcell : ∀ i, cellAt (w.heap.setIfInBounds ad.block (.cells arr T (if f.1 == f.2 then (arr.size, arr.size + 1) else (min f.1 arr.size, max f.2 (arr.size + 1))))) ad.block i = cellAt w.heap ad.block i := by
    intro i; simp only [cellAt, Array.getElem?_setIfInBounds_self_of_lt (lt_of_getElem?' f3), f3]
  obtain ⟨hC1, hG1⟩ := hC0.changeHand (base := base) (tail := false) (m := 0) (τ := .home (.slot n 0)) (x := .cells arr T (if f.1 == f.2 then (arr.size, arr.size + 1) else (min f.1 arr.size, max f.2 (arr.size + 1)))) f2 (lt_of_getElem?' f3) (fun i hi => by simp [Env.imm, f2] at hi)
  rw [setTag_self f2] at hC1 hG1
  have hO : OwnRel false E1 (w.heap.setIfInBounds ad.block (.cells arr T (if f.1 == f.2 then (arr.size, arr.size + 1) else (min f.1 arr.size, max f.2 (arr.size + 1))))) (.slot n 0) sz (c :: es) (some ad) cap := by
    refine ⟨e2, e3, e4, fun _ => ⟨ad, arr, T, _, rfl, f2, Array.getElem?_setIfInBounds_self_of_lt (lt_of_getElem?' f3), f4, open_more f5⟩, e6.1, fun i e j v hi hj => ?_⟩
    obtain ⟨ad', y, g1, g2, g3⟩ := e6.2 i e j v hi hj
    cases g1
    exact ⟨ad, y, rfl, by rw [hcell]; exact g2, g3.mono hG1.imm⟩
  have hend := CoreS.pushOwn (g := 0) hC1 hO
  rw [← e1] at hend
  refine value_end (w1 := { w with heap := w.heap.setIfInBounds ad.block (.cells arr T (if f.1 == f.2 then (arr.size, arr.size + 1) else (min f.1 arr.size, max f.2 (arr.size + 1)))) }) hend (b2.trans hG1) ⟨rfl, rfl, rfl⟩ b4 K ?_
  have hsh : w.shape? ad.block = some (T, arr.size) := by simp only [World.shape?, f3]
  have hfz : w.freeze ⟨ad.block, arr.size, none⟩ 1 = { w with heap := w.heap.setIfInBounds ad.block (.cells arr T (if f.1 == f.2 then (arr.size, arr.size + 1) else (min f.1 arr.size, max f.2 (arr.size + 1)))) } := by
    simp only [World.freeze]
    rw [if_neg (by omega), modify_set _ f3]
  subst htt
  have hee : e0 = e := by rw [h1] at h2; cases h2; rfl
  subst hee
  have hmark : (markStringish ad).run P w = .ok () { w with heap := w.heap.setIfInBounds ad.block (.cells arr T (if f.1 == f.2 then (arr.size, arr.size + 1) else (min f.1 arr.size, max f.2 (arr.size + 1)))) } := by
    simp only [markStringish, Sem.run_bind, run_shape, hsh, Result.andThen_ok, run_freeze, hfz]
  simp only [execOp, ho, convert, Sem.run_bind, run_under h1, run_under h2, run_under h3, Result.andThen_ok, e1, beq_self_eq_true, hmark, Sem.run_pure]
end
end Go.Vq
