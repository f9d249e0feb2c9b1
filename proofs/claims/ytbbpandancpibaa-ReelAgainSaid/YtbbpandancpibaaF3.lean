/- A machine of values and its tie to the model, and runs of it: part 3 of 18 (no law of Go is stated here). -/
import Derived.Test.YtbbpandancpibaaF2
import Derived.Calls
import Derived.Laws.Sem
import Derived.Laws.Cells
import Derived.Laws.Strings
import Derived.Laws.Entries
import Derived.ChangeKeysEq
set_option linter.unusedVariables false
set_option linter.unusedSimpArgs false
set_option linter.unusedSectionVars false
namespace Go.Vq
section
variable {n base : Nat} {E E' : Env} {σ σ' : St} {hs : List V} {ts xs : List Value} {H H' : Array Go.Obj}
def Env.setTag (E : Env) (b : Nat) (t : Tag) : Env := { E with tag := fun b' => if b' = b then t else E.tag b' }
theorem setTag_same (E : Env) (b : Nat) (t : Tag) : (E.setTag b t).tag b = t := by simp [Env.setTag]
theorem setTag_ne (E : Env) {b b' : Nat} (t : Tag) (h : b' ≠ b) : (E.setTag b t).tag b' = E.tag b' := by simp [Env.setTag, h]
theorem hand_rel {w : V} {x : Value} (hC : CoreS n E σ (hs ++ [w]) ts (xs ++ [x]) H) : SlotRel E (σ.slots ++ (hs ++ [w])) σ.objs (ts ++ (xs ++ [x])) H (n + hs.length) w x := by
  have hl : hs.length = xs.length := by simpa using hC.hl
  refine hC.core.slot _ w x ?_ ?_
  · rw [← List.append_assoc, List.getElem?_append_right (by simp [hC.sl])]; simp [hC.sl]
  · rw [← List.append_assoc, List.getElem?_append_right (by simp [hC.tl, hl])]; simp [hC.tl, hl]
theorem set_same {α : Type} {l : List α} {i : Nat} {u : α} (h : l[i]? = some u) : l.set i u = l := by
  apply List.ext_getElem?
  intro j
  by_cases hj : i = j
  · subst hj; rw [List.getElem?_set_self (lt_of_getElem? h), h]
  · rw [List.getElem?_set_ne hj]
def V.settled : V → Bool
  | .srf .. | .csl .. => false
  | _ => true
theorem ct_turn {h : Home} {u v : V} (hu : ct σ.slots σ.objs h = some v) (hf : ∀ s i, h = .slot s i → (σ.slot s).formed ∧ (∀ w ∈ (σ.slot s).leaves, w.leaf = true) ∧ s < σ.slots.length) (hl : u.leaf = true) : ct (σ.turn h u).slots (σ.turn h u).objs h = some u := by
  cases h with
  | slot s i =>
    obtain ⟨h1, h2, h3⟩ := hf s i rfl
    have hi := lt_of_getElem? (show (σ.slot s).leaves[i]? = some v from hu)
    show ((σ.slots.set s ((σ.slot s).withLeaves ((σ.slot s).leaves.set i u))).getD s (.gone 0)).leaves[i]? = some u
    rw [getD_of_getElem? (List.getElem?_set_self h3), withLeaves_leaves h1 (by simp) (fun w hw => by
      rcases List.mem_or_eq_of_mem_set hw with h | h
      · exact h2 w h
      · exact h ▸ hl), List.getElem?_set_self hi]
  | obj o i =>
    simp only [ct] at hu
    split at hu
    · rename_i cs ho
      have h1 : σ.objs.getD o none = some (.cells cs) := getD_of_getElem? ho
      simp only [ct, St.turn, setObjs', h1]
      rw [List.getElem?_set_self (lt_of_getElem? ho)]
      simp only [List.getElem?_set_self (lt_of_getElem? hu)]
    · cases hu
theorem CoreS.formedAt (hC : CoreS n E σ hs ts xs H) {h : Home} {v : V} (hu : ct σ.slots σ.objs h = some v) (hg : ∀ g, v ≠ .gone g) :
    ∀ s i, h = .slot s i → (σ.slot s).formed ∧ (∀ w ∈ (σ.slot s).leaves, w.leaf = true) ∧ s < σ.slots.length := by
  rintro s i rfl
  have hs : s < n := by
    rcases Nat.lt_or_ge s n with h1 | h1
    · exact h1
    · exact absurd (ct_slot_big (hC.sl ▸ h1) hu) (hg 0)
  have hS := hC.slotRel hs
  exact ⟨hS.formed, hS.leafs, hC.sl ▸ hs⟩
theorem settle1_sound {w : V} {x : Value} {h : Option Home} {i : Nat} {u : V} {k : V → Prog} (hC : CoreS n E σ (hs ++ [w]) ts (xs ++ [x]) H) (hu : w.leaves[i]? = some u) (hr : (settle1 h u k).run σ = some σ') :
    ∃ E1 σ1 u', CoreS n E1 σ1 (hs ++ [w.withLeaves (w.leaves.set i u')]) ts (xs ++ [x]) H ∧ Grow base E H E1 H ∧ E1.addr = E.addr ∧ (k u').run σ1 = some σ' ∧ u'.leaf = true ∧ u'.settled = true ∧ (u.settled = true → u' = u) := by
  have hS := hand_rel hC
  have hul := hS.leafs u (List.mem_of_getElem? hu)
  have hsame : w.withLeaves (w.leaves.set i u) = w := by rw [set_same hu, withLeaves_same hS.formed]
  by_cases hset : u.settled = true
  · have e : settle1 h u k = k u := by cases u <;> first | rfl | simp [V.settled] at hset
    rw [e] at hr
    exact ⟨E, σ, u, by rw [hsame]; exact hC, Grow.refl _ _ _, rfl, hr, hul, hset, fun _ => rfl⟩
  · have hwl := hS.1
    have hwg : ∀ g, w ≠ .gone g := by rintro g rfl; cases i with | zero => simp at hu; subst hu; exact hset rfl | succ i => simp at hu
    obtain ⟨y, hy⟩ := exists_getElem? (l := vleaves x) (i := i) (by rw [← shape_len hS.1 hwg]; exact lt_of_getElem? hu)
    have hv := hS.2 i u y hu hy
    cases u <;> simp only [V.settled, Bool.true_eq_false, Bool.false_eq_true, not_true_eq_false, not_false_eq_true] at hset
    case csl sz es =>
      refine ⟨E, σ, .isl 0 sz es, ?_, Grow.refl _ _ _, rfl, hr, rfl, rfl, fun h => by cases h⟩
      exact hC.turnHand hu (fun g => by simp) ⟨rfl, rfl⟩ rfl (fun _ _ h => h) (fun _ _ _ _ _ _ h => h) (fun _ _ _ _ _ _ _ h => h) (fun _ _ h => h) (fun _ h => h) (fun y' _ hy' _ => hy'.1)
    case srf h' g sz off len =>
      simp only [settle1] at hr
      replace hr := gHome_run hr
      obtain ⟨c, hc, hr⟩ := hr
      have key : ∀ es, (c = .xsl g sz es ∨ c = .isl g sz es ∨ c = .fsl g sz es) → off + len ≤ es.length → ∀ (E1 : Env) (σ1 : St), CoreS n E1 σ1 (hs ++ [w]) ts (xs ++ [x]) H →
          ct σ1.slots σ1.objs h' = some c ∨ ct σ1.slots σ1.objs h' = some (.fsl g sz es) → (ct σ1.slots σ1.objs h' ≠ some (.xsl g sz es)) →
          CoreS n E1 σ1 (hs ++ [w.withLeaves (w.leaves.set i (.isl 0 sz ((es.drop off).take len)))]) ts (xs ++ [x]) H := by
        intro es hk hle E1 σ1 hC1 hc1 hc2
        have hS1 := hand_rel hC1
        have hv1 := hS1.2 i _ y hu hy
        have hk1 : ∃ c1, ct σ1.slots σ1.objs h' = some c1 ∧ (c1 = .xsl g sz es ∨ c1 = .isl g sz es ∨ c1 = .fsl g sz es) ∧ c1 ≠ .xsl g sz es := by
          rcases hc1 with h | h
          · exact ⟨c, h, hk, fun e => hc2 (e ▸ h)⟩
          · exact ⟨_, h, .inr (.inr rfl), by simp⟩
        obtain ⟨c1, d1, d2, d3⟩ := hk1
        obtain ⟨d4, d5⟩ := ct_real' (n := n) (hs := hs ++ [w]) hC1.sl d1 (by rintro g' rfl; rcases d2 with h | h | h <;> cases h)
        obtain ⟨y', a, cap, f1, f2, f3, f4, f5⟩ := hC1.core.homeView d4 d2
        have hvl : valid (σ1.slots ++ (hs ++ [w])) σ1.objs h' g sz := ⟨c1, d4, by rcases d2 with rfl | rfl | rfl <;> rfl⟩
        obtain ⟨a', cap', g1, g2⟩ := View.of_srf hv1 hvl f1 f2 hle
        refine hC1.turnHand hu (fun g => by simp) ⟨rfl, rfl⟩ rfl (fun _ _ h => h) (fun _ _ _ _ _ _ h => h) (fun _ _ _ _ _ _ _ h => h) (fun _ _ h => h) (fun _ h => h) (fun y2 hy2 _ _ => ?_)
        rw [hy] at hy2; cases hy2
        exact isl_of_sub g1 g2 (f5 d3)
      have hcg : ∀ es, (c = .xsl g sz es ∨ c = .isl g sz es ∨ c = .fsl g sz es) → ∀ g', c ≠ .gone g' := by rintro es hk g' rfl; rcases hk with h | h | h <;> cases h
      split at hr
      · -- owned
        rename_i g' sz' es
        rw [Prog.run_ite] at hr
        split at hr
        · rename_i hcond; obtain ⟨rfl, rfl, hle⟩ := hcond
          rw [Prog.run_ite] at hr
          split at hr
          · -- back to where it came from
            obtain ⟨_, hr⟩ := sHome_run hr
            have hk : V.xsl g' sz' es = .xsl g' sz' es ∨ V.xsl g' sz' es = .isl g' sz' es ∨ V.xsl g' sz' es = .fsl g' sz' es := .inl rfl
            obtain ⟨d4, d5⟩ := ct_real' (n := n) (hs := hs ++ [w]) hC.sl hc (by simp)
            obtain ⟨y', a, cap, f1, f2, f3, f4, f5⟩ := hC.core.homeView d4 hk
            have hvl : valid (σ.slots ++ (hs ++ [w])) σ.objs h' g' sz' := ⟨_, d4, rfl⟩
            obtain ⟨a', cap', g1, g2⟩ := View.of_srf hv hvl f1 f2 hle
            have hC1 : CoreS n E (σ.turn h' (.gone (g' + 1))) (hs ++ [w]) ts (xs ++ [x]) H := hC.letGo hc rfl
            have hct1 := ct_turn (u := .gone (g' + 1)) hc (hC.formedAt hc (by simp)) rfl
            obtain ⟨d6, d7⟩ : ct ((σ.turn h' (.gone (g' + 1))).slots ++ (hs ++ [w])) (σ.turn h' (.gone (g' + 1))).objs h' = some (.gone (g' + 1)) ∧ True := by
              rw [ct_real (n := n) hC1.sl d5]; exact ⟨hct1, trivial⟩
            by_cases hc0 : cap' = 0
            · refine ⟨E, σ.turn h' (.gone (g' + 1)), .xsl 0 sz' ((es.drop off).take len), ?_, Grow.refl _ _ _, rfl, hr, rfl, rfl, fun h => by cases h⟩
              refine hC1.turnHand hu (fun g => by simp) ⟨rfl, rfl⟩ rfl (fun _ _ h => h) (fun _ _ _ _ _ _ h => h) (fun _ _ _ _ _ _ _ h => h) (fun _ _ h => h) (fun _ h => h) (fun y2 hy2 _ _ => ?_)
              rw [hy] at hy2; cases hy2
              exact ⟨a', cap', g1.eq, g1.le, g1.nil, g1.spot, fun h => absurd hc0 h, g1.elems⟩
            · obtain ⟨ad, i1, i2, i3⟩ := g2 hc0
              obtain ⟨ad', arr, T, f, j1, j2, j3, j4, j5⟩ := f3 rfl (by omega)
              rw [i1] at j1; cases j1
              have hne : ∀ b, E.tag b ≠ .home h' → b ≠ ad.block := fun b hb e => hb (e ▸ j2)
              refine ⟨E.setTag ad.block (.home (.slot (n + hs.length) i)), σ.turn h' (.gone (g' + 1)), .xsl 0 sz' ((es.drop off).take len), ?_, ?_, rfl, hr, rfl, rfl, fun h => by cases h⟩
              · refine hC1.turnHand hu (fun g => by simp) ⟨rfl, rfl⟩ rfl ?_ ?_ ?_ ?_ ?_ (fun y2 hy2 _ slots' => ?_)
                · intro b i hi
                  by_cases hb : b = ad.block
                  · subst hb; simp [Env.imm, j2] at hi
                  · simp only [Env.imm, setTag_ne E _ hb] at hi ⊢; exact hi
                · intro h2 w' hh hw ho b hb
                  rw [setTag_ne E _ (hne b (by rw [hb]; rintro e; cases e; rw [d6] at hw; cases hw; cases ho))]; exact hb
                · intro h2 w' hh hw ho b m hb
                  rw [setTag_ne E _ (hne b (by rw [hb]; simp))]; exact hb
                · intro b o hb
                  rw [setTag_ne E _ (hne b (by rw [hb]; simp))]; exact hb
                · intro b hb
                  rw [setTag_ne E _ (hne b (by rw [hb]; simp))]; exact hb
                · rw [hy] at hy2; cases hy2
                  refine ⟨a', cap', g1.eq, g1.le, g1.nil, g1.spot, fun _ => ⟨_, arr, T, f, i2, setTag_same _ _ _, j3, ?_, j5⟩, ?_⟩
                  · calc ad.off + off * sz' + cap' * sz' = ad.off + (off + cap') * sz' := by rw [Nat.add_mul]; omega
                      _ ≤ ad.off + cap * sz' := Nat.add_le_add_left (Nat.mul_le_mul_right _ i3) _
                      _ ≤ arr.size := j4
                  · refine g1.elems.mono (fun b i hi => ⟨?_, rfl⟩) (fun _ _ => rfl)
                    by_cases hb : b = ad.block
                    · subst hb; simp [Env.imm, j2] at hi
                    · simp only [Env.imm, setTag_ne E _ hb] at hi ⊢; exact hi
              · refine ⟨Nat.le_refl _, fun b i hi => ⟨?_, rfl⟩, fun b _ hb => ⟨?_, rfl⟩, fun b hb => ⟨?_, rfl⟩, fun b m hb => ⟨?_, rfl⟩, fun _ _ => rfl⟩
                · by_cases hb : b = ad.block
                  · subst hb; simp [Env.imm, j2] at hi
                  · simp only [Env.imm, setTag_ne E _ hb] at hi ⊢; exact hi
                · rw [setTag_ne E _ (hne b (by rw [hb]; simp))]; exact hb
                · rw [setTag_ne E _ (hne b (by rw [hb]; simp))]; exact hb
                · rw [setTag_ne E _ (hne b (by rw [hb]; simp))]; exact hb
          · -- frozen
            obtain ⟨_, hr⟩ := sHome_run hr
            obtain ⟨E1, hC1, hG, hA⟩ := hC.freeze (base := base) hc
            have hct1 := ct_turn (u := .fsl g' sz' es) hc (hC.formedAt hc (by simp)) rfl
            exact ⟨E1, _, _, key es (.inl rfl) hle E1 _ hC1 (.inr hct1) (by rw [hct1]; simp), hG, hA, hr, rfl, rfl, fun h => by cases h⟩
        · cases hr
      · -- frozen already
        rename_i g' sz' es
        rw [Prog.run_ite] at hr
        split at hr
        · rename_i hcond; obtain ⟨rfl, rfl, hle⟩ := hcond
          rw [Prog.run_ite] at hr
          split at hr
          · obtain ⟨_, hr⟩ := sHome_run hr
            have hk : V.fsl g' sz' es = .xsl g' sz' es ∨ V.fsl g' sz' es = .isl g' sz' es ∨ V.fsl g' sz' es = .fsl g' sz' es := .inr (.inr rfl)
            obtain ⟨d4, d5⟩ := ct_real' (n := n) (hs := hs ++ [w]) hC.sl hc (by simp)
            obtain ⟨y', a, cap, f1, f2, f3, f4, f5⟩ := hC.core.homeView d4 hk
            have hvl : valid (σ.slots ++ (hs ++ [w])) σ.objs h' g' sz' := ⟨_, d4, rfl⟩
            obtain ⟨a', cap', g1, g2⟩ := View.of_srf hv hvl f1 f2 hle
            have hC1 : CoreS n E (σ.turn h' (.gone (g' + 1))) (hs ++ [w]) ts (xs ++ [x]) H := hC.letGo hc rfl
            have hct1 := ct_turn (u := .gone (g' + 1)) hc (hC.formedAt hc (by simp)) rfl
            obtain ⟨d6, d7⟩ : ct ((σ.turn h' (.gone (g' + 1))).slots ++ (hs ++ [w])) (σ.turn h' (.gone (g' + 1))).objs h' = some (.gone (g' + 1)) ∧ True := by
              rw [ct_real (n := n) hC1.sl d5]; exact ⟨hct1, trivial⟩
            split at hr
            · rename_i hend
              have hsl : ((es.drop off).take len).length = len := by rw [List.length_take, List.length_drop]; omega
              by_cases hc0 : cap' = 0
              · refine ⟨E, σ.turn h' (.gone (g' + 1)), .fsl 0 sz' ((es.drop off).take len), ?_, Grow.refl _ _ _, rfl, hr, rfl, rfl, fun h => by cases h⟩
                refine hC1.turnHand hu (fun g => by simp) ⟨rfl, rfl⟩ rfl (fun _ _ h => h) (fun _ _ _ _ _ _ h => h) (fun _ _ _ _ _ _ _ h => h) (fun _ _ h => h) (fun _ h => h) (fun y2 hy2 _ _ => ?_)
                rw [hy] at hy2; cases hy2
                exact ⟨a', cap', g1.eq, g1.le, g1.nil, g1.spot, fun h => absurd hc0 h, g1.elems⟩
              · obtain ⟨ad, i1, i2, i3⟩ := g2 hc0
                obtain ⟨ad', arr, T, f, j1, j2, j3, j4, j5⟩ := f4 rfl (by omega)
                rw [i1] at j1; cases j1
                have hne : ∀ b, E.tag b ≠ .tail h' (ad.off + es.length * sz') → b ≠ ad.block := fun b hb e => hb (e ▸ j2)
                have himm : ∀ b i', E.imm b i' → (E.setTag ad.block (.tail (.slot (n + hs.length) i) (ad.off + es.length * sz'))).imm b i' := by
                  intro b i' hi
                  by_cases hb : b = ad.block
                  · subst hb; simp only [Env.imm, j2, setTag_same] at hi ⊢; exact hi
                  · simp only [Env.imm, setTag_ne E _ hb] at hi ⊢; exact hi
                refine ⟨E.setTag ad.block (.tail (.slot (n + hs.length) i) (ad.off + es.length * sz')), σ.turn h' (.gone (g' + 1)), .fsl 0 sz' ((es.drop off).take len), ?_, ?_, rfl, hr, rfl, rfl, fun h => by cases h⟩
                · refine hC1.turnHand hu (fun g => by simp) ⟨rfl, rfl⟩ rfl himm ?_ ?_ ?_ ?_ (fun y2 hy2 _ slots' => ?_)
                  · intro h2 w' hh hw ho b hb
                    rw [setTag_ne E _ (hne b (by rw [hb]; simp))]; exact hb
                  · intro h2 w' hh hw ho b m hb
                    rw [setTag_ne E _ (hne b (by rw [hb]; rintro e; cases e; rw [d6] at hw; cases hw; cases ho))]; exact hb
                  · intro b o hb
                    rw [setTag_ne E _ (hne b (by rw [hb]; simp))]; exact hb
                  · intro b hb
                    rw [setTag_ne E _ (hne b (by rw [hb]; simp))]; exact hb
                  · rw [hy] at hy2; cases hy2
                    refine ⟨a', cap', g1.eq, g1.le, g1.nil, g1.spot, fun _ => ⟨_, arr, T, f, i2, ?_, j3, ?_, j5⟩, ?_⟩
                    · rw [setTag_same, hsl]
                      show Tag.tail _ (ad.off + es.length * sz') = Tag.tail _ (ad.off + off * sz' + len * sz')
                      rw [← hend, Nat.add_mul, Nat.add_assoc]
                    · calc ad.off + off * sz' + cap' * sz' = ad.off + (off + cap') * sz' := by rw [Nat.add_mul]; omega
                        _ ≤ ad.off + cap * sz' := Nat.add_le_add_left (Nat.mul_le_mul_right _ i3) _
                        _ ≤ arr.size := j4
                    · exact g1.elems.mono (fun b i hi => ⟨himm b i hi, rfl⟩) (fun _ _ => rfl)
                · refine ⟨Nat.le_refl _, fun b i hi => ⟨himm b i hi, rfl⟩, fun b _ hb => ⟨?_, rfl⟩, fun b hb => ⟨?_, rfl⟩, fun b m hb => ⟨?_, rfl⟩, fun _ _ => rfl⟩
                  · rw [setTag_ne E _ (hne b (by rw [hb]; simp))]; exact hb
                  · rw [setTag_ne E _ (hne b (by rw [hb]; simp))]; exact hb
                  · rw [setTag_ne E _ (hne b (by rw [hb]; simp))]; exact hb
            · refine ⟨E, σ.turn h' (.gone (g' + 1)), .isl 0 sz' ((es.drop off).take len), ?_, Grow.refl _ _ _, rfl, hr, rfl, rfl, fun h => by cases h⟩
              refine hC1.turnHand hu (fun g => by simp) ⟨rfl, rfl⟩ rfl (fun _ _ h => h) (fun _ _ _ _ _ _ h => h) (fun _ _ _ _ _ _ _ h => h) (fun _ _ h => h) (fun _ h => h) (fun y2 hy2 _ _ => ?_)
              rw [hy] at hy2; cases hy2
              exact isl_of_sub g1 g2 (f5 (by simp))
          · exact ⟨E, σ, _, key es (.inr (.inr rfl)) hle E σ hC (.inl hc) (by rw [hc]; simp), Grow.refl _ _ _, rfl, hr, rfl, rfl, fun h => by cases h⟩
        · cases hr
      · rename_i g' sz' es
        rw [Prog.run_ite] at hr
        split at hr
        · rename_i hcond; obtain ⟨rfl, rfl, hle⟩ := hcond
          exact ⟨E, σ, _, key es (.inr (.inl rfl)) hle E σ hC (.inl hc) (by rw [hc]; simp), Grow.refl _ _ _, rfl, hr, rfl, rfl, fun h => by cases h⟩
        · cases hr
      · cases hr
end
end Go.Vq
namespace Go.Vq
section
variable {n base : Nat} {E E' : Env} {σ σ' : St} {hs : List V} {ts xs : List Value} {H H' : Array Go.Obj}
def Sound1 (n base : Nat) (f1 : Option Home → V → (V → Prog) → Prog) (Q : V → Prop) : Prop :=
  ∀ (E : Env) (σ σ' : St) (hs : List V) (ts xs : List Value) (H : Array Go.Obj) (w : V) (x : Value) (h : Option Home) (i : Nat) (u : V) (k : V → Prog),
    CoreS n E σ (hs ++ [w]) ts (xs ++ [x]) H → w.leaves[i]? = some u → (f1 h u k).run σ = some σ' →
    ∃ E1 σ1 u', CoreS n E1 σ1 (hs ++ [w.withLeaves (w.leaves.set i u')]) ts (xs ++ [x]) H ∧ Grow base E H E1 H ∧ E1.addr = E.addr ∧ (k u').run σ1 = some σ' ∧ u'.leaf = true ∧ Q u'
theorem settle1_Sound : Sound1 n base settle1 (fun u => u.settled = true) := by
  intro E σ σ' hs ts xs H w x h i u k hC hu hr
  obtain ⟨E1, σ1, u', h1, h2, h3, h4, h5, h6, _⟩ := settle1_sound (base := base) hC hu hr
  exact ⟨E1, σ1, u', h1, h2, h3, h4, h5, h6⟩
theorem keep1_Sound : Sound1 n base keep1 (fun u => True) := by
  intro E σ σ' hs ts xs H w x h i u k hC hu hr
  have hS := hand_rel hC
  have hsame : w.withLeaves (w.leaves.set i u) = w := by rw [set_same hu, withLeaves_same hS.formed]
  have hid : (k u).run σ = some σ' → ∃ E1 σ1 u', CoreS n E1 σ1 (hs ++ [w.withLeaves (w.leaves.set i u')]) ts (xs ++ [x]) H ∧ Grow base E H E1 H ∧ E1.addr = E.addr ∧ (k u').run σ1 = some σ' ∧ u'.leaf = true ∧ True :=
    fun hr => ⟨E, σ, u, by rw [hsame]; exact hC, Grow.refl _ _ _, rfl, hr, hS.leafs u (List.mem_of_getElem? hu), trivial⟩
  cases u <;> first
    | exact hid hr
    | (simp only [keep1] at hr
       rw [Prog.run_ite] at hr
       split at hr
       · obtain ⟨E1, σ1, u', h1, h2, h3, h4, h5, h6, _⟩ := settle1_sound (base := base) hC hu hr
         exact ⟨E1, σ1, u', h1, h2, h3, h4, h5, trivial⟩
       · exact hid hr)
theorem list_sound {f1 : Option Home → V → (V → Prog) → Prog} {Q : V → Prop} (h1 : Sound1 n base f1 Q) (f : (Nat → Option Home) → Nat → List V → (List V → Prog) → Prog)
    (hnil : ∀ mk j k, f mk j [] k = k []) (hcons : ∀ mk j v vs k, f mk j (v :: vs) k = f1 (mk j) v fun v' => f mk (j + 1) vs fun vs' => k (v' :: vs')) (mk : Nat → Option Home) :
    ∀ (rest done : List V) {E : Env} {σ : St} {w : V} {x : Value} {k : List V → Prog}, CoreS n E σ (hs ++ [w]) ts (xs ++ [x]) H → w.leaves = done ++ rest → (f mk done.length rest k).run σ = some σ' →
    ∃ E1 σ1 ls, CoreS n E1 σ1 (hs ++ [w.withLeaves (done ++ ls)]) ts (xs ++ [x]) H ∧ Grow base E H E1 H ∧ E1.addr = E.addr ∧ (k ls).run σ1 = some σ' ∧ ls.length = rest.length ∧ ∀ u ∈ ls, u.leaf = true ∧ Q u
  | [], done, E, σ, w, x, k, hC, hw, hr => by
    rw [hnil] at hr
    have hS := hand_rel hC
    refine ⟨E, σ, [], ?_, Grow.refl _ _ _, rfl, hr, rfl, fun u h => by cases h⟩
    rw [← hw, withLeaves_same hS.formed]; exact hC
  | v :: rest, done, E, σ, w, x, k, hC, hw, hr => by
    rw [hcons] at hr
    have hS := hand_rel hC
    have hv : w.leaves[done.length]? = some v := by rw [hw]; simp
    obtain ⟨E1, σ1, u', a1, a2, a3, a4, a5, a6⟩ := h1 _ _ _ _ _ _ _ _ _ _ _ _ _ hC hv hr
    have hset : w.leaves.set done.length u' = done ++ u' :: rest := by rw [hw]; simp
    have hlf : ∀ u ∈ w.leaves.set done.length u', u.leaf = true := by
      intro u hu
      rcases List.mem_or_eq_of_mem_set hu with h | h
      · exact hS.leafs u h
      · exact h ▸ a5
    have hl1 : (w.withLeaves (w.leaves.set done.length u')).leaves = (done ++ [u']) ++ rest := by
      rw [withLeaves_leaves hS.formed (by simp) hlf, hset]; simp
    obtain ⟨E2, σ2, ls, b1, b2, b3, b4, b5, b6⟩ := list_sound h1 f hnil hcons mk rest (done ++ [u']) a1 hl1 (by simpa using a4)
    refine ⟨E2, σ2, u' :: ls, ?_, a2.trans b2, b3.trans a3, b4, by simp [b5], fun u hu => ?_⟩
    · rw [withLeaves_twice hS.formed (by simp) hlf (by
        have h1 := congrArg List.length hw
        simp at h1
        simp [b5, h1])] at b1
      rw [show done ++ u' :: ls = (done ++ [u']) ++ ls by simp]
      exact b1
    · rcases List.mem_cons.1 hu with h | h
      · subst h; exact ⟨a5, a6⟩
      · exact b6 u h
theorem settle_sound (mk : Nat → Option Home) {w : V} {x : Value} {k : List V → Prog} (hC : CoreS n E σ (hs ++ [w]) ts (xs ++ [x]) H) (hr : (settle mk 0 w.leaves k).run σ = some σ') :
    ∃ E1 σ1 ls, CoreS n E1 σ1 (hs ++ [w.withLeaves ls]) ts (xs ++ [x]) H ∧ Grow base E H E1 H ∧ E1.addr = E.addr ∧ (k ls).run σ1 = some σ' ∧ ls.length = w.leaves.length ∧ ∀ u ∈ ls, u.leaf = true ∧ u.settled = true :=
  list_sound settle1_Sound settle (fun _ _ _ => rfl) (fun _ _ _ _ _ => rfl) mk w.leaves [] hC rfl hr
theorem keeps_sound (mk : Nat → Option Home) {w : V} {x : Value} {k : List V → Prog} (hC : CoreS n E σ (hs ++ [w]) ts (xs ++ [x]) H) (hr : (keeps mk 0 w.leaves k).run σ = some σ') :
    ∃ E1 σ1 ls, CoreS n E1 σ1 (hs ++ [w.withLeaves ls]) ts (xs ++ [x]) H ∧ Grow base E H E1 H ∧ E1.addr = E.addr ∧ (k ls).run σ1 = some σ' ∧ ls.length = w.leaves.length ∧ ∀ u ∈ ls, u.leaf = true ∧ True :=
  list_sound keep1_Sound keeps (fun _ _ _ => rfl) (fun _ _ _ _ _ => rfl) mk w.leaves [] hC rfl hr
theorem plain_leaf {v : V} (h : v.plain = true) : v.leaf = true ∧ v.own = false ∧ v.refs1 = [] ∧ v.settled = true := by
  cases v <;> first | (simp [V.plain] at h; done) | exact ⟨rfl, rfl, rfl, rfl⟩
theorem hasX_false {v : V} (h : v.hasX = false) : ∀ u ∈ v.leaves, u.own = false := by
  intro u hu
  have := List.any_eq_false.1 h u hu
  cases u <;> first | rfl | simp at this
theorem opd_rel {o : Opd} {x : Value} {v : V} {k : V → Prog} (hC : CoreS n E σ hs ts xs H) (ho : OpdOk ts o x) (hr : (gOpd o k).run σ = some σ') :
    ∃ v, (k v).run σ = some σ' ∧ (∃ s, SlotRel E (σ.slots ++ hs) σ.objs (ts ++ xs) H s v x ∧ ∀ t, o = .tmp t → t < n → s = t) ∧ (∀ r ∈ v.refs, (∀ t i, r.1 = .slot t i → t < n) ∧ ∃ u, ct (σ.slots ++ hs) σ.objs r.1 = some u ∧ r.2 < u.nextg) ∧
      (∀ t, o = .tmp t → v = σ.slot t) ∧ (∀ v', o = .val v' → v = v' ∧ ∀ u ∈ v.leaves, u.own = false) := by
  cases o with
  | tmp t =>
    refine ⟨σ.slot t, hr, ⟨t, ?_, fun t' e _ => (by cases e; rfl)⟩, hC.slotRefs t, fun t' e => (by cases e; rfl), fun v' e => (by cases e)⟩
    by_cases ht : t < n
    · have := hC.slotRel ht; simp only [OpdOk] at ho; rw [ho] at this; exact this
    · rw [hC.slotBig ht]; exact ⟨trivial, fun i u y hu _ => by cases i with | zero => simp at hu; subst hu; trivial | succ i => simp at hu⟩
  | val v =>
    exact ⟨v, hr, ⟨0, ho.1 _ _ _ _ _ _, fun t e => (by cases e)⟩, (by rw [ho.2.1]; intro r hr; cases hr), fun t e => (by cases e), fun v' e => (by cases e; exact ⟨rfl, ho.2.2⟩)⟩
theorem slotRel_any {s : Nat} {v : V} {x : Value} {slots : List V} {objs : List (Option Obj)} {vals : List Value} (h : SlotRel E slots objs vals H s v x) (ho : ∀ u ∈ v.leaves, u.own = false) (s' : Nat) : SlotRel E slots objs vals H s' v x :=
  ⟨h.1, fun i u y hu hy => (h.2 i u y hu hy).move (fun _ _ h => ⟨h, rfl⟩) (fun h1 => by rw [ho u (List.mem_of_getElem? hu)] at h1; cases h1) (fun h1 => by rw [ho u (List.mem_of_getElem? hu)] at h1; cases h1) (fun _ _ h => ⟨rfl, h⟩) (fun _ _ _ _ h => ⟨rfl, h⟩) fun _ _ _ h => ⟨h, rfl⟩⟩
theorem grab_sound {o : Opd} {x : Value} {k : Prog} {v : V} (hC : CoreS n E σ hs ts xs H) (hv : ∃ s, SlotRel E (σ.slots ++ hs) σ.objs (ts ++ xs) H s v x ∧ ∀ t, o = .tmp t → t < n → s = t)
    (hrf : ∀ r ∈ v.refs, (∀ t i, r.1 = .slot t i → t < n) ∧ ∃ u, ct (σ.slots ++ hs) σ.objs r.1 = some u ∧ r.2 < u.nextg)
    (h1 : ∀ t, o = .tmp t → v = σ.slot t) (h2 : ∀ v', o = .val v' → v = v' ∧ ∀ u ∈ v.leaves, u.own = false) (ho : OpdOk ts o x) (hr : (drain o k).run σ = some σ') :
    ∃ E1 σ1, CoreS n E1 σ1 (hs ++ [v]) ts (xs ++ [x]) H ∧ Grow base E H E1 H ∧ E1.addr = E.addr ∧ k.run σ1 = some σ' := by
  obtain ⟨s, hS, hs'⟩ := hv
  have hno : v.hasX = false → CoreS n E σ (hs ++ [v]) ts (xs ++ [x]) H := fun hx => hC.push (hasX_false hx) (slotRel_any hS (hasX_false hx) 0) hrf
  cases o with
  | tmp t =>
    have e := h1 t rfl
    subst e
    simp only [drain, Prog.run] at hr
    rw [Prog.run_ite] at hr
    split at hr
    · rename_i hx
      have ht : t < n := by
        rcases Nat.lt_or_ge t n with h | h
        · exact h
        · rw [hC.slotBig (by omega)] at hx; simp [V.hasX] at hx
      have := hC.take ht
      simp only [OpdOk] at ho; rw [ho] at this
      exact ⟨_, _, this, Grow.retag _ _ _ _, rfl, hr⟩
    · rename_i hx
      exact ⟨E, σ, hno (by simpa using hx), Grow.refl _ _ _, rfl, hr⟩
  | val v' =>
    obtain ⟨rfl, h3⟩ := h2 v' rfl
    refine ⟨E, σ, ?_, Grow.refl _ _ _, rfl, hr⟩
    exact hC.push h3 (slotRel_any hS h3 0) hrf
theorem gMove_sound (mk : Nat → Option Home) {o : Opd} {x : Value} {k : V → Prog} (hC : CoreS n E σ hs ts xs H) (ho : OpdOk ts o x) (hr : (gMove mk o k).run σ = some σ') :
    ∃ E1 σ1 v, CoreS n E1 σ1 (hs ++ [v]) ts (xs ++ [x]) H ∧ Grow base E H E1 H ∧ E1.addr = E.addr ∧ (k v).run σ1 = some σ' ∧ ∀ u ∈ v.leaves, u.settled = true := by
  obtain ⟨v, hr, hv, hrf, h1, h2⟩ := opd_rel (v := .nil) hC ho hr
  rw [Prog.run_ite] at hr
  split at hr
  · rename_i hp
    have hpl := plain_leaf hp
    have hno : ∀ u ∈ v.leaves, u.own = false := by rw [leaves_leaf hpl.1]; simp [hpl.2.1]
    obtain ⟨s, hS, _⟩ := hv
    exact ⟨E, σ, v, hC.push hno (slotRel_any hS hno 0) hrf, Grow.refl _ _ _, rfl, hr, by rw [leaves_leaf hpl.1]; simp [hpl.2.2.2]⟩
  · obtain ⟨E1, σ1, a1, a2, a3, a4⟩ := grab_sound (base := base) hC hv hrf h1 h2 ho hr
    obtain ⟨E2, σ2, ls, b1, b2, b3, b4, b5, b6⟩ := settle_sound (base := base) mk a1 a4
    refine ⟨E2, σ2, _, b1, a2.trans b2, b3.trans a3, b4, ?_⟩
    rw [withLeaves_leaves (hand_rel a1).formed b5 fun u hu => (b6 u hu).1]
    exact fun u hu => (b6 u hu).2
theorem gKeep_sound (mk : Nat → Option Home) {o : Opd} {x : Value} {k : V → Prog} (hC : CoreS n E σ hs ts xs H) (ho : OpdOk ts o x) (hr : (gKeep mk o k).run σ = some σ') :
    ∃ E1 σ1 v, CoreS n E1 σ1 (hs ++ [v]) ts (xs ++ [x]) H ∧ Grow base E H E1 H ∧ E1.addr = E.addr ∧ (k v).run σ1 = some σ' := by
  obtain ⟨v, hr, hv, hrf, h1, h2⟩ := opd_rel (v := .nil) hC ho hr
  rw [Prog.run_ite] at hr
  split at hr
  · rename_i hp
    have hpl := plain_leaf hp
    have hno : ∀ u ∈ v.leaves, u.own = false := by rw [leaves_leaf hpl.1]; simp [hpl.2.1]
    obtain ⟨s, hS, _⟩ := hv
    exact ⟨E, σ, v, hC.push hno (slotRel_any hS hno 0) hrf, Grow.refl _ _ _, rfl, hr⟩
  · obtain ⟨E1, σ1, a1, a2, a3, a4⟩ := grab_sound (base := base) hC hv hrf h1 h2 ho hr
    obtain ⟨E2, σ2, ls, b1, b2, b3, b4, b5, b6⟩ := keeps_sound (base := base) mk a1 a4
    exact ⟨E2, σ2, _, b1, a2.trans b2, b3.trans a3, b4⟩
end
end Go.Vq
namespace Go.Vq
section
variable {P : Program} {n base : Nat} {E E' : Env} {σ σ' : St} {hs : List V} {ts xs : List Value} {H H' : Array Go.Obj}
theorem constLeaf {v : V} {x : Value} (hl : v.leaf = true) (ho : v.own = false) (hf : v.refs1 = []) (hx : leafX x = true)
    (hr : ∀ (E : Env) (slots : List V) (objs : List (Option Obj)) (vals : List Value) (H : Array Go.Obj) (h : Home), RelV E slots objs vals H h v x) : ConstOk v x := by
  refine ⟨fun E slots objs vals H s => ⟨shape_leaf hl hx, fun i u y hu hy => ?_⟩, ?_, ?_⟩
  · rw [leaves_leaf hl] at hu
    rw [vleaves_leaf hx] at hy
    cases i with
    | zero => simp at hu hy; subst hu hy; exact hr _ _ _ _ _ _
    | succ i => simp at hu
  · rw [V.refs, leaves_leaf hl]; simp [hf]
  · rw [leaves_leaf hl]; simp [ho]
theorem plainV_rel {x : Value} {v : V} (h : plainV x = some v) : v.leaf = true ∧ v.own = false ∧ v.refs1 = [] ∧ leafX x = true ∧ (∀ (imm : Nat → Nat → Prop) (H : Array Go.Obj), RelI imm H v x) ∧ (∀ E slots objs vals H h, RelV E slots objs vals H h v x) := by
  unfold plainV at h
  split at h <;> first
    | (cases h; done)
    | (cases h; first
        | exact ⟨rfl, rfl, rfl, rfl, fun _ _ => .bool _, fun _ _ _ _ _ _ => RelI.bool _⟩
        | exact ⟨rfl, rfl, rfl, rfl, fun _ _ => .int _ _, fun _ _ _ _ _ _ => RelI.int _ _⟩
        | exact ⟨rfl, rfl, rfl, rfl, fun _ _ => .str _, fun _ _ _ _ _ _ => RelI.str _⟩
        | exact ⟨rfl, rfl, rfl, rfl, fun _ _ => .nil, fun _ _ _ _ _ _ => RelI.nil⟩
        | exact ⟨rfl, rfl, rfl, rfl, fun _ _ => .nilm, fun _ _ _ _ _ _ => RelI.nilm⟩
        | exact ⟨rfl, rfl, rfl, rfl, fun _ _ => .nilf, fun _ _ _ _ _ _ => RelI.nilf⟩
        | exact ⟨rfl, rfl, rfl, rfl, fun _ _ => .nili, fun _ _ _ _ _ _ => RelI.nili⟩)
theorem valOf_rel {t : TypeId} {x : Value} {v : V} (h : valOf P t x = some v) : v.leaf = true ∧ v.own = false ∧ v.refs1 = [] ∧ leafX x = true ∧ (∀ E slots objs vals H h, RelV E slots objs vals H h v x) ∧ ∀ (imm : Nat → Nat → Prop) (H : Array Go.Obj), RelI imm H v x := by
  unfold valOf at h
  split at h
  · unfold nilOf at h
    simp only [Option.bind_eq_bind, Option.pure_def] at h
    obtain ⟨d, hd, h⟩ := Option.bind_eq_some_iff.1 h
    split at h
    · obtain ⟨z, hz, h⟩ := Option.bind_eq_some_iff.1 h
      cases h
      exact ⟨rfl, rfl, rfl, rfl, fun _ _ _ _ _ _ => RelI.nilS _, fun _ _ => .nilS _⟩
    · cases h
  · obtain ⟨h1, h2, h3, h4, h5, h6⟩ := plainV_rel h
    exact ⟨h1, h2, h3, h4, h6, h5⟩
theorem valsOf_rel : ∀ {ts : List TypeId} {xs : List Value} {vs : List V}, valsOf P ts xs = some vs → vs.length = xs.length ∧ ∀ (i : Nat) (v : V) (x : Value), vs[i]? = some v → xs[i]? = some x → ∃ t, valOf P t x = some v
  | [], [], vs, h => by cases h; exact ⟨rfl, fun i v x h => by simp at h⟩
  | [], _ :: _, vs, h => by cases h
  | _ :: _, [], vs, h => by cases h
  | t :: ts, x :: xs, vs, h => by
    simp only [valsOf, Option.bind_eq_bind, Option.pure_def] at h
    obtain ⟨v, hv, h⟩ := Option.bind_eq_some_iff.1 h
    obtain ⟨us, hu, h⟩ := Option.bind_eq_some_iff.1 h
    cases h
    obtain ⟨i1, i2⟩ := valsOf_rel hu
    refine ⟨by simp [i1], fun i v' x' h1 h2 => ?_⟩
    cases i with
    | zero => simp at h1 h2; subst h1 h2; exact ⟨t, hv⟩
    | succ i => exact i2 i v' x' (by simpa using h1) (by simpa using h2)
theorem aggConst {ts : List TypeId} {cs : Array Value} {vs : List V} (h : valsOf P ts cs.toList = some vs) : ConstOk (.agg vs) (.agg cs) := by
  obtain ⟨h1, h2⟩ := valsOf_rel h
  have hall : ∀ u ∈ vs, u.leaf = true ∧ u.own = false ∧ u.refs1 = [] := by
    intro u hu
    obtain ⟨i, hi, rfl⟩ := List.getElem_of_mem hu
    obtain ⟨t, ht⟩ := h2 i _ _ (List.getElem?_eq_getElem hi) (List.getElem?_eq_getElem (by omega))
    have := valOf_rel ht
    exact ⟨this.1, this.2.1, this.2.2.1⟩
  refine ⟨fun E slots objs vals H s => ⟨⟨cs, rfl, by simpa using h1⟩, fun i u y hu hy => ?_⟩, ?_, fun u hu => (hall u hu).2.1⟩
  · obtain ⟨t, ht⟩ := h2 i u y hu hy
    exact (valOf_rel ht).2.2.2.2.1 _ _ _ _ _ _
  · simp only [V.refs, V.leaves]
    rw [List.flatMap_eq_nil_iff]
    exact fun u hu => (hall u hu).2.2
theorem opd_ok {t : TypeId} {o : Operand} {v : Opd} (a : Act) (h : opd P t o = some v) : OpdOk a.tmps.toList v (a.eval o) := by
  unfold opd at h
  split at h
  · cases h; simp [OpdOk, Act.eval, Array.getD_eq_getD_getElem?, List.getD_eq_getElem?_getD]
  · simp only [Option.bind_eq_bind, Option.pure_def] at h
    obtain ⟨ts, _, h⟩ := Option.bind_eq_some_iff.1 h
    obtain ⟨vs, hv, h⟩ := Option.bind_eq_some_iff.1 h
    cases h
    exact aggConst hv
  · obtain ⟨u, hu, h⟩ := Option.map_eq_some_iff.1 h
    subst h
    obtain ⟨h1, h2, h3, h4, h5, _⟩ := valOf_rel hu
    exact constLeaf h1 h2 h3 h4 h5
  · cases h
    exact constLeaf rfl rfl rfl rfl fun E slots objs vals H h => RelC.func _ [] #[] rfl (fun i v x h => by simp at h)
  · cases h
theorem opd0_ok {o : Operand} {v : Opd} (a : Act) (h : opd0 o = some v) : OpdOk a.tmps.toList v (a.eval o) := by
  unfold opd0 at h
  split at h
  · cases h; simp [OpdOk, Act.eval, Array.getD_eq_getD_getElem?, List.getD_eq_getElem?_getD]
  · cases h
  · obtain ⟨u, hu, h⟩ := Option.map_eq_some_iff.1 h
    subst h
    obtain ⟨h1, h2, h3, h4, h5, h6⟩ := plainV_rel hu
    exact constLeaf h1 h2 h3 h4 h6
  · cases h
    exact constLeaf rfl rfl rfl rfl fun E slots objs vals H h => RelC.func _ [] #[] rfl (fun i v x h => by simp at h)
  · cases h
structure WSame (w w' : World) : Prop where
  os : w'.os = w.os
  output : w'.output = w.output
  tape : w'.tape = w.tape
theorem WSame.refl (w : World) : WSame w w := ⟨rfl, rfl, rfl⟩
theorem WSame.trans {w w1 w2 : World} (h : WSame w w1) (h' : WSame w1 w2) : WSame w w2 := ⟨h'.os.trans h.os, h'.output.trans h.output, h'.tape.trans h.tape⟩
def NextOk (n base : Nat) (E : Env) (σ' : St) (a : Act) (w : World) (next : Act → World → Prop) : Prop :=
  ∀ (E' : Env) (a' : Act) (w' : World), CoreS n E' σ' [] a'.tmps.toList [] w'.heap → Grow base E w.heap E' w'.heap → WSame w w' → a'.defers = a.defers → next a' w'
def putL (ts : List Value) (d : Option Nat) (x : Value) : List Value := match d with | some d => ts.set d x | none => ts
theorem putO_sound {v : V} {x : Value} {d : Option Nat} {k : Prog} (hC : CoreS n E σ (hs ++ [v]) ts (xs ++ [x]) H) (hr : (putO d v k).run σ = some σ') :
    ∃ E1 σ1, CoreS n E1 σ1 hs (putL ts d x) xs H ∧ Grow base E H E1 H ∧ E1.addr = E.addr ∧ k.run σ1 = some σ' := by
  cases d with
  | none => exact ⟨E, σ, hC.pop, Grow.refl _ _ _, rfl, hr⟩
  | some d =>
    obtain ⟨ls, h1, h2⟩ := put_run hr
    rcases Nat.lt_or_ge d n with hd | hd
    · exact ⟨_, _, hC.put hd h1, Grow.retag _ _ _ _, rfl, h2⟩
    · refine ⟨E, σ, ?_, Grow.refl _ _ _, rfl, ?_⟩
      · simp only [putL]; rw [List.set_eq_of_length_le (by rw [hC.tl]; exact hd)]; exact hC.pop
      · have : σ.setS d (v.withLeaves ls) = σ := by
          simp only [St.setS]; rw [List.set_eq_of_length_le (by rw [hC.sl]; exact hd)]
        rw [this] at h2; exact h2
theorem put_toList (a : Act) (d : Option Nat) (x : Value) : (a.put d x).tmps.toList = putL a.tmps.toList d x := by
  cases d <;> simp [Act.put, putL]
theorem put_defers (a : Act) (d : Option Nat) (x : Value) : (a.put d x).defers = a.defers := by cases d <;> rfl
theorem value_end {o : Oper} {a : Act} {w w1 : World} {next : Act → World → Prop} {Q : Exit → Act → World → Prop} {E1 : Env} {σ1 : St} {v : V} {x : Value}
    (hC : CoreS n E1 σ1 [v] a.tmps.toList [x] w1.heap) (hG : Grow base E w.heap E1 w1.heap) (hW : WSame w w1) (hr : (putO o.dst v .ret).run σ1 = some σ') (K : NextOk n base E σ' a w next)
    (hx : (execOp a.eval o).run P w = .ok (.value x) w1) : o.upon P a next Q ((execOp a.eval o).run P w) := by
  rw [hx, Oper.upon_value]
  obtain ⟨E2, σ2, h1, h2, _, h3⟩ := putO_sound (base := base) (hs := []) (xs := []) hC hr
  cases h3
  exact K E2 _ w1 (by rw [put_toList]; exact h1) (hG.trans h2) hW (put_defers _ _ _)
end
end Go.Vq
namespace Go.Vq
section
variable {P : Program} {n base : Nat} {E E' : Env} {σ σ' : St} {hs : List V} {ts xs : List Value} {H H' : Array Go.Obj}
theorem borrow1_rel {slots : List V} {objs : List (Option Obj)} {vals : List Value} {h h' : Home} {u : V} {y : Value} (hv : RelV E slots objs vals H h u y) (hy : hd E vals H h = some y) :
    RelV E slots objs vals H h' (borrow1 h u) y := by
  cases u with
  | xsl g sz es =>
    obtain ⟨a, cap, e1, e2, e3, e4, e5, e6⟩ := hv
    refine ⟨a, cap, e1, e2, e3, e4, fun _ => ⟨a, es.length, cap, by rw [hy, e1], fun hc => ?_⟩⟩
    obtain ⟨ad, arr, T, f, f1, _⟩ := e5 hc
    subst f1
    refine ⟨ad, rfl, ?_, by omega⟩
    have := e4 ad rfl
    cases ad; simp_all
  | fsl g sz es =>
    obtain ⟨a, cap, e1, e2, e3, e4, e5, e6⟩ := hv
    refine ⟨a, cap, e1, e2, e3, e4, fun _ => ⟨a, es.length, cap, by rw [hy, e1], fun hc => ?_⟩⟩
    obtain ⟨ad, arr, T, f, f1, _⟩ := e5 hc
    subst f1
    refine ⟨ad, rfl, ?_, by omega⟩
    have := e4 ad rfl
    cases ad; simp_all
  | isl g sz es =>
    simp only [RelV, borrow1] at hv ⊢
    cases hv with
    | isl _ _ _ a cap xs hc ha hsp hz hx h => exact .isl _ _ _ a cap xs hc ha hsp hz hx h
  | gone g => trivial
  | _ => exact hv.move (fun _ _ h => ⟨h, rfl⟩) (fun h => by simp [V.own] at h) (fun h => by simp [V.own] at h) (fun _ _ h => ⟨rfl, h⟩) (fun _ _ _ _ h => ⟨rfl, h⟩) fun _ _ _ h => ⟨h, rfl⟩
theorem borrow1_leaf {h : Home} {u : V} (hl : u.leaf = true) : (borrow1 h u).leaf = true := by cases u <;> first | rfl | exact hl
theorem borrow1_own (h : Home) (u : V) : (borrow1 h u).own = false := by cases u <;> rfl
theorem borrow1_refs (h : Home) (u : V) : ∀ r ∈ (borrow1 h u).refs1, r ∈ u.refs1 ∨ (r.1 = h ∧ r.2 < u.nextg) := by
  intro r hr
  cases u <;> first
    | exact .inl hr
    | (simp only [borrow1, V.refs1, List.mem_singleton] at hr; subst hr; exact .inr ⟨rfl, by simp [V.nextg]⟩)
    | (simp [borrow1, V.refs1] at hr; done)
theorem borrows_get : ∀ (mk : Nat → Home) (j : Nat) (vs : List V) (i : Nat), (borrows mk j vs)[i]? = (vs[i]?).map (borrow1 (mk (j + i)))
  | _, _, [], i => by simp [borrows]
  | mk, j, v :: vs, 0 => by simp [borrows]
  | mk, j, v :: vs, i + 1 => by simp only [borrows, List.getElem?_cons_succ]; rw [borrows_get mk (j + 1) vs i, show j + 1 + i = j + (i + 1) by omega]
theorem borrows_len : ∀ (mk : Nat → Home) (j : Nat) (vs : List V), (borrows mk j vs).length = vs.length
  | _, _, [] => rfl
  | mk, j, v :: vs => by simp [borrows, borrows_len]
theorem CoreS.borrow (hC : CoreS n E σ hs ts xs H) {t : Nat} : CoreS n E σ (hs ++ [(σ.slot t).borrow (.slot t)]) ts (xs ++ [ts.getD t undef]) H := by
  by_cases ht : t < n
  · have hS := hC.slotRel ht
    have hrf := hC.slotRefs t
    generalize hv : σ.slot t = v at *
    have hlf : ∀ u ∈ borrows (.slot t) 0 v.leaves, u.leaf = true := by
      intro u hu
      obtain ⟨i, hi, rfl⟩ := List.getElem_of_mem hu
      have h1 := borrows_get (.slot t) 0 v.leaves i
      rw [List.getElem?_eq_getElem hi] at h1
      obtain ⟨z, hz, hz'⟩ := Option.map_eq_some_iff.1 h1.symm
      rw [← hz']; exact borrow1_leaf (hS.leafs z (List.mem_of_getElem? hz))
    have hwl : (v.borrow (.slot t)).leaves = borrows (.slot t) 0 v.leaves := withLeaves_leaves hS.formed (borrows_len _ _ _) hlf
    refine hC.push ?_ ⟨?_, fun i u y hu hy => ?_⟩ ?_
    · rw [hwl]
      intro u hu
      obtain ⟨i, hi, rfl⟩ := List.getElem_of_mem hu
      have h1 := borrows_get (.slot t) 0 v.leaves i
      rw [List.getElem?_eq_getElem hi] at h1
      obtain ⟨z, hz, hz'⟩ := Option.map_eq_some_iff.1 h1.symm
      rw [← hz']; exact borrow1_own _ _
    · by_cases hg : ∃ g, v = .gone g
      · obtain ⟨g, rfl⟩ := hg; trivial
      · exact withLeaves_shape hS.formed (borrows_len _ _ _) hlf hS.1 fun g e => hg ⟨g, e⟩
    · rw [hwl, borrows_get] at hu
      obtain ⟨z, hz, rfl⟩ := Option.map_eq_some_iff.1 hu
      rw [Nat.zero_add]
      refine borrow1_rel (hS.2 i z y hz hy) ?_
      obtain ⟨x', hx'⟩ := exists_getElem? (l := ts) (i := t) (hC.tl ▸ ht)
      rw [getD_of_getElem? hx'] at hy
      simp only [hd, List.getElem?_append_left (lt_of_getElem? hx'), hx', Option.bind_some]; exact hy
    · intro r hr
      rw [refs_of_leaves hwl, List.mem_flatMap] at hr
      obtain ⟨u, hu, hr⟩ := hr
      obtain ⟨i, hi, rfl⟩ := List.getElem_of_mem hu
      have h1 := borrows_get (.slot t) 0 v.leaves i
      rw [List.getElem?_eq_getElem hi] at h1
      obtain ⟨z, hz, hz'⟩ := Option.map_eq_some_iff.1 h1.symm
      rw [← hz'] at hr
      rcases borrow1_refs _ _ r hr with h2 | ⟨h2, h3⟩
      · exact hrf r (mem_refs hz h2)
      · refine ⟨fun t' i' e => by rw [h2] at e; cases e; exact ht, z, ?_, h3⟩
        rw [h2, ct_append_left _ _ _ _ _ (hC.sl ▸ ht), Nat.zero_add]
        show (σ.slot t).leaves[i]? = some z
        rw [hv]; exact hz
  · have e : (σ.slot t).borrow (.slot t) = .gone 0 := by rw [hC.slotBig ht]; rfl
    rw [e]
    exact hC.push (by simp [V.own]) ⟨trivial, fun i u y hu _ => by cases i with | zero => simp at hu; subst hu; trivial | succ i => simp at hu⟩ (by intro r hr; simp [V.refs, V.refs1] at hr)
theorem CoreS.pushOpd {o : Opd} {x : Value} {v : V} (hC : CoreS n E σ hs ts xs H) (hv : ∃ s, SlotRel E (σ.slots ++ hs) σ.objs (ts ++ xs) H s v x ∧ ∀ t, o = .tmp t → t < n → s = t)
    (hrf : ∀ r ∈ v.refs, (∀ t i, r.1 = .slot t i → t < n) ∧ ∃ u, ct (σ.slots ++ hs) σ.objs r.1 = some u ∧ r.2 < u.nextg) (hno : ∀ u ∈ v.leaves, u.own = false) : CoreS n E σ (hs ++ [v]) ts (xs ++ [x]) H := by
  obtain ⟨s, hS, _⟩ := hv
  exact hC.push hno (slotRel_any hS hno 0) hrf
variable {callee : Callee} {o : Oper} {a : Act} {w : World} {next : Act → World → Prop} {Q : Exit → Act → World → Prop}
theorem plain_no {v : V} (h : v.plain = true) : ∀ u ∈ v.leaves, u.own = false := by rw [leaves_leaf (plain_leaf h).1]; simp [(plain_leaf h).2.1]
theorem op_move {x : Operand} {x' : Opd} (ho : o.op = .move x) (hx : opd P o.type x = some x') (hC : CoreS n E σ [] a.tmps.toList [] w.heap)
    (hr : (opProg callee base o.dst (.move x')).run σ = some σ') (K : NextOk n base E σ' a w next) : o.upon P a next Q ((execOp a.eval o).run P w) := by
  have hrun : (execOp a.eval o).run P w = .ok (.value (a.eval x)) w := by simp [execOp, ho]
  have hok := opd_ok a hx
  replace hr := opd_rel (v := .nil) hC hok hr
  obtain ⟨v, hr, hv, hrf, h1, h2⟩ := hr
  rw [Prog.run_ite] at hr
  split at hr
  · rename_i hp
    exact value_end (hC.pushOpd hv hrf (plain_no hp)) (Grow.refl _ _ _) (WSame.refl _) hr K hrun
  · by_cases ht : ∃ vs, v = .tup vs
    · obtain ⟨vs, rfl⟩ := ht
      obtain ⟨E1, σ1, a1, a2, a3, a4⟩ := grab_sound (base := base) hC hv hrf h1 h2 hok hr
      exact value_end a1 a2 (WSame.refl _) a4 K hrun
    · cases x' with
      | tmp t =>
        have e := h1 t rfl
        have hr' : (putO o.dst (v.borrow (.slot t)) .ret).run σ = some σ' := by
          cases v <;> first | exact hr | exact absurd ⟨_, rfl⟩ ht
        rw [e] at hr'
        have hb := hC.borrow (t := t)
        simp only [OpdOk] at hok
        rw [hok] at hb
        exact value_end hb (Grow.refl _ _ _) (WSame.refl _) hr' K hrun
      | val v' =>
        have hr' : (putO o.dst v .ret).run σ = some σ' := by
          cases v <;> first | exact hr | exact absurd ⟨_, rfl⟩ ht
        exact value_end (hC.pushOpd hv hrf (h2 _ rfl).2) (Grow.refl _ _ _) (WSame.refl _) hr' K hrun
theorem op_assign {x : Operand} {x' : Opd} (ho : o.op = .assign x) (hx : opd P o.type x = some x') (hC : CoreS n E σ [] a.tmps.toList [] w.heap)
    (hr : (opProg callee base o.dst (.assign x')).run σ = some σ') (K : NextOk n base E σ' a w next) : o.upon P a next Q ((execOp a.eval o).run P w) := by
  have hrun : (execOp a.eval o).run P w = .ok (.value (a.eval x)) w := by simp [execOp, ho]
  obtain ⟨E1, σ1, v, a1, a2, a3, a4⟩ := gKeep_sound (base := base) _ hC (opd_ok a hx) hr
  exact value_end a1 a2 (WSame.refl _) a4 K hrun
theorem gBool_sound {o : Opd} {x : Value} {k : Bool → Prog} (hC : CoreS n E σ hs ts xs H) (ho : OpdOk ts o x) (hr : (gBool o k).run σ = some σ') : ∃ b, x = .bool b ∧ (k b).run σ = some σ' := by
  replace hr := opd_rel (v := .nil) hC ho hr
  obtain ⟨v, hr, ⟨s, hS, hs'⟩, hrest⟩ := hr
  clear hrest hs'
  split at hr
  · rename_i b
    have h1 := leaf_shape (v := .bool b) rfl (fun g => by simp) hS.1
    have h2 := hS.2 0 (.bool b) x rfl (by rw [vleaves_leaf h1]; rfl)
    cases h2; exact ⟨b, rfl, hr⟩
  · cases hr
theorem gInt_sound {o : Opd} {x : Value} {k : Int → Prog} (hC : CoreS n E σ hs ts xs H) (ho : OpdOk ts o x) (hr : (gInt o k).run σ = some σ') : ∃ kk m, x = .int kk m ∧ (k m).run σ = some σ' := by
  replace hr := opd_rel (v := .nil) hC ho hr
  obtain ⟨v, hr, ⟨s, hS, hs'⟩, hrest⟩ := hr
  clear hrest hs'
  split at hr
  · rename_i kk m
    have h1 := leaf_shape (v := .int kk m) rfl (fun g => by simp) hS.1
    have h2 := hS.2 0 (.int kk m) x rfl (by rw [vleaves_leaf h1]; rfl)
    cases h2; exact ⟨kk, m, rfl, hr⟩
  · cases hr
theorem op_pick {c x y : Operand} {c' x' y' : Opd} (ho : o.op = .pick c x y) (hc : opd0 c = some c') (hx : opd0 x = some x') (hy : opd0 y = some y') (hC : CoreS n E σ [] a.tmps.toList [] w.heap)
    (hr : (opProg callee base o.dst (.pick c' x' y')).run σ = some σ') (K : NextOk n base E σ' a w next) : o.upon P a next Q ((execOp a.eval o).run P w) := by
  obtain ⟨b, hb, hr⟩ := gBool_sound hC (opd0_ok a hc) hr
  have hrun : (execOp a.eval o).run P w = .ok (.value (if b then a.eval x else a.eval y)) w := by
    simp only [execOp, ho, hb, asBool]
    cases b <;> simp
  have hok : OpdOk a.tmps.toList (if b then x' else y') (if b then a.eval x else a.eval y) := by
    cases b
    · exact opd0_ok a hy
    · exact opd0_ok a hx
  replace hr := opd_rel (v := .nil) hC hok hr
  obtain ⟨v, hr, hv, hrf, h1, h2⟩ := hr
  rw [Prog.run_ite] at hr
  split at hr
  · rename_i hp
    exact value_end (hC.pushOpd hv hrf (plain_no hp)) (Grow.refl _ _ _) (WSame.refl _) hr K hrun
  · cases hr
theorem rel_leaf {v : V} {x : Value} {s : Nat} {slots : List V} {objs : List (Option Obj)} {vals : List Value} (hS : SlotRel E slots objs vals H s v x) (hl : v.leaf = true) (hg : ∀ g, v ≠ .gone g) : leafX x = true ∧ RelV E slots objs vals H (.slot s 0) v x := by
  have h1 := leaf_shape hl hg hS.1
  exact ⟨h1, hS.2 0 v x (by rw [leaves_leaf hl]; rfl) (by rw [vleaves_leaf h1]; rfl)⟩
theorem op_nilCheck {x : Operand} {x' : Opd} (ho : o.op = .nilCheck x) (hx : opd0 x = some x') (hC : CoreS n E σ [] a.tmps.toList [] w.heap)
    (hr : (opProg callee base o.dst (.nilCheck x')).run σ = some σ') (K : NextOk n base E σ' a w next) : o.upon P a next Q ((execOp a.eval o).run P w) := by
  have hok := opd0_ok a hx
  replace hr := opd_rel (v := .nil) hC hok hr
  obtain ⟨v, hr, hv, hrf, h1, h2⟩ := hr
  obtain ⟨s, hS, hs'⟩ := hv
  split at hr
  · rename_i r
    obtain ⟨hl, hR⟩ := rel_leaf hS rfl (fun g => by simp)
    have hp : ∃ ad, a.eval x = .pointer (some ad) := by
      cases r with
      | obj ob off => exact ⟨_, hR.1⟩
      | elem h g sz i off => obtain ⟨ad, h, _⟩ := hR; exact ⟨ad, h⟩
    obtain ⟨ad, hp⟩ := hp
    exact value_end (hC.pushOpd ⟨s, hS, hs'⟩ hrf (by simp [leaves_leaf (v := .ptr r) rfl, V.own])) (Grow.refl _ _ _) (WSame.refl _) hr K (by simp [execOp, ho, hp])
  · rename_i cs
    obtain ⟨hl, hR⟩ := rel_leaf hS rfl (fun g => by simp)
    obtain ⟨ad, hp, _⟩ := hR
    exact value_end (hC.pushOpd ⟨s, hS, hs'⟩ hrf (by simp [leaves_leaf (v := .iptr cs) rfl, V.own])) (Grow.refl _ _ _) (WSame.refl _) hr K (by simp [execOp, ho, hp])
  · rename_i f cs
    obtain ⟨hl, hR⟩ := rel_leaf hS rfl (fun g => by simp)
    have hp : ∃ ys, a.eval x = .func (.func f) #[] ys := by
      generalize a.eval x = y at hR
      cases hR with
      | imm _ _ h => cases h
      | func _ _ xs hn h => exact ⟨xs, rfl⟩
    obtain ⟨ys, hp⟩ := hp
    exact value_end (hC.pushOpd ⟨s, hS, hs'⟩ hrf (by simp [leaves_leaf (v := .func f cs) rfl, V.own])) (Grow.refl _ _ _) (WSame.refl _) hr K (by simp [execOp, ho, hp])
  · cases hr
end
end Go.Vq
namespace Go.Vq
section
variable {P : Program} {n base : Nat} {E E' : Env} {σ σ' : St} {hs : List V} {ts xs : List Value} {H H' : Array Go.Obj}
variable {callee : Callee} {o : Oper} {a : Act} {w : World} {next : Act → World → Prop} {Q : Exit → Act → World → Prop}
def V.toVal : V → Option Value
  | .bool b => some (.bool b)
  | .int k n => some (.int k n)
  | .str s => some (.string ⟨s.toArray⟩)
  | .nil => some (.pointer none)
  | .nilf => some .nilFunc
  | .nilm => some (.map none)
  | .nili => some .nilIface
  | .nilS _ => some (.slice none 0 0)
  | _ => none
theorem toVal_rel {v : V} {y : Value} (h : v.toVal = some y) (imm : Nat → Nat → Prop) (H : Array Go.Obj) : RelI imm H v y := by
  cases v <;> simp only [V.toVal, Option.some.injEq, reduceCtorEq] at h <;> subst h <;> constructor
theorem toVal_plain {v : V} {y : Value} (h : v.toVal = some y) : v.plain = true ∧ leafX y = true := by
  cases v <;> simp only [V.toVal, Option.some.injEq, reduceCtorEq] at h <;> subst h <;> exact ⟨rfl, rfl⟩
theorem relI_toVal {imm : Nat → Nat → Prop} {v : V} {x y : Value} (hr : RelI imm H v x) (h : v.toVal = some y) : x = y := by
  cases hr <;> simp only [V.toVal, Option.some.injEq, reduceCtorEq] at h <;> exact h
theorem relV_plain {slots : List V} {objs : List (Option Obj)} {vals : List Value} {h : Home} {v : V} {x : Value} (hp : v.plain = true) : RelV E slots objs vals H h v x ↔ RelI E.imm H v x := by
  cases v <;> first | rfl | simp [V.plain] at hp
theorem plain_toVal {v : V} (h : v.plain = true) : ∃ y, v.toVal = some y := by
  cases v <;> first | exact ⟨_, rfl⟩ | simp [V.plain] at h
theorem relV_toVal {slots : List V} {objs : List (Option Obj)} {vals : List Value} {h : Home} {v : V} {x y : Value} (hr : RelV E slots objs vals H h v x) (hy : v.toVal = some y) : x = y :=
  relI_toVal ((relV_plain (toVal_plain hy).1).1 hr) hy
theorem slot_toVal {slots : List V} {objs : List (Option Obj)} {vals : List Value} {s : Nat} {v : V} {x y : Value} (hS : SlotRel E slots objs vals H s v x) (hy : v.toVal = some y) : x = y := by
  have hp := plain_leaf (toVal_plain hy).1
  have hg : ∀ g, v ≠ .gone g := by rintro g rfl; cases hy
  exact relV_toVal (rel_leaf hS hp.1 hg).2 hy
theorem CoreS.pushPlain (hC : CoreS n E σ hs ts xs H) {v : V} {y : Value} (hy : v.toVal = some y) : CoreS n E σ (hs ++ [v]) ts (xs ++ [y]) H := by
  obtain ⟨hp, hl⟩ := toVal_plain hy
  have hpl := plain_leaf hp
  refine hC.push (plain_no hp) ⟨shape_leaf hpl.1 hl, fun i u z hu hz => ?_⟩ (by rw [V.refs, leaves_leaf hpl.1]; simp [hpl.2.2.1])
  rw [leaves_leaf hpl.1] at hu; rw [vleaves_leaf hl] at hz
  cases i with
  | zero => simp at hu hz; subst hu hz; exact (relV_plain hp).2 (toVal_rel hy _ _)
  | succ i => simp at hu
theorem plain_end {v : V} {y : Value} (hC : CoreS n E σ [] a.tmps.toList [] w.heap) (hy : v.toVal = some y) (hr : (putO o.dst v .ret).run σ = some σ') (K : NextOk n base E σ' a w next)
    (hx : (execOp a.eval o).run P w = .ok (.value y) w) : o.upon P a next Q ((execOp a.eval o).run P w) :=
  value_end (hC.pushPlain hy) (Grow.refl _ _ _) (WSame.refl _) hr K hx
theorem bitsV_run {op : BinOp} {k : IntKind} {x y r : Int} (h : bitsV op k x y = some r) : (Op.intBits op k x y).run P w = .ok (.int k r) w := by
  cases op <;> simp [bitsV] at h <;> subst h <;> simp [Op.intBits]
theorem size_mk (l : List UInt8) : (ByteArray.mk l.toArray).size = l.length := by simp [ByteArray.size]
theorem append_mk (a b : List UInt8) : ByteArray.mk a.toArray ++ ByteArray.mk b.toArray = ByteArray.mk (a ++ b).toArray := by
  apply ByteArray.ext
  simp [ByteArray.data_append]
theorem eqGuard_skip {op : BinOp} {t : TypeId} {x y : Operand} {u v : Value} (h : op ≠ .eql ∧ op ≠ .neq) : (eqGuard op t x y u v).run P w = .ok () w := by
  cases op <;> first | (simp at h; done) | simp [eqGuard]
theorem eqGuard_plain {op : BinOp} {t : TypeId} {x y : Operand} {u v : Value} (h : leafX u = true) (hn : u ≠ .nilIface) : (eqGuard op t x y u v).run P w = .ok () w := by
  cases op <;> cases u <;> first | (simp [leafX] at h; done) | exact absurd rfl hn | (cases v <;> simp [eqGuard])
theorem binV_run {op : BinOp} {t : TypeId} {u v r : V} {xu xv : Value} (hu : u.toVal = some xu) (hv : v.toVal = some xv) (h : binV op u v = some r) :
    ∃ yr, r.toVal = some yr ∧ (Go.binOp op t xu xv).run P w = .ok yr w := by
  unfold binV at h
  split at h
  all_goals (try simp only [V.toVal, Option.some.injEq, reduceCtorEq] at hu hv)
  all_goals (try subst hu)
  all_goals (try subst hv)
  case h_1 => split at h; · cases h
              · cases h; exact ⟨_, rfl, by simp [Go.binOp, Op.shift, *]⟩
  case h_2 => split at h; · cases h
              · cases h; exact ⟨_, rfl, by simp [Go.binOp, Op.shift, *]⟩
  case h_3 => split at h
              · rename_i hk; subst hk; cases h; exact ⟨_, rfl, by simp [Go.binOp, Op.intArith]⟩
              · cases h
  case h_4 => split at h
              · rename_i hk; subst hk; cases h; exact ⟨_, rfl, by simp [Go.binOp, Op.intArith]⟩
              · cases h
  case h_5 => split at h
              · rename_i hk; subst hk; cases h; exact ⟨_, rfl, by simp [Go.binOp, Op.intArith]⟩
              · cases h
  case h_6 => split at h
              · rename_i hk; subst hk
                split at h
                · cases h
                · cases h; exact ⟨_, rfl, by simp [Go.binOp, Op.intDiv, *]⟩
              · cases h
  case h_7 => split at h
              · rename_i hk; subst hk
                split at h
                · cases h
                · cases h; exact ⟨_, rfl, by simp [Go.binOp, Op.intDiv, *]⟩
              · cases h
  case h_8 => split at h
              · rename_i hk; subst hk; cases h; exact ⟨_, rfl, by simp [Go.binOp, Op.intCmp]⟩
              · cases h
  case h_9 => split at h
              · rename_i hk; subst hk; cases h; exact ⟨_, rfl, by simp [Go.binOp, Op.intCmp]⟩
              · cases h
  case h_10 => split at h
               · rename_i hk; subst hk; cases h; exact ⟨_, rfl, by simp [Go.binOp, Op.intCmp]⟩
               · cases h
  case h_11 => split at h
               · rename_i hk; subst hk; cases h; exact ⟨_, rfl, by simp [Go.binOp, Op.intCmp]⟩
               · cases h
  case h_12 => split at h
               · rename_i la lb hlen
                 cases h
                 refine ⟨_, rfl, ?_⟩
                 have h1 : ¬ ((ByteArray.size (⟨List.toArray la⟩ : ByteArray) + ByteArray.size (⟨List.toArray lb⟩ : ByteArray) : Nat) : Int) > IntKind.i64.max := by
                   rw [size_mk, size_mk]
                   have : IntKind.i64.max = 9223372036854775807 := by decide
                   omega
                 simp only [Go.binOp, Op.stringOp]
                 rw [if_neg h1]
                 simp [append_mk]
               · cases h
  case h_13 => cases h; exact ⟨_, rfl, by simp [Go.binOp, Op.stringOp]⟩
  case h_14 => cases h; exact ⟨_, rfl, by simp [Go.binOp, Op.stringOp]⟩
  case h_15 => cases h; exact ⟨_, rfl, by simp [Go.binOp, Op.stringOp]⟩
  case h_16 => cases h; exact ⟨_, rfl, by simp [Go.binOp, Op.stringOp]⟩
  case h_17 => split at h
               · rename_i hk; subst hk
                 obtain ⟨r', hr', rfl⟩ := Option.map_eq_some_iff.1 h
                 exact ⟨_, rfl, by simp only [Go.binOp]; simp only [ne_eq, not_true_eq_false, if_false]; exact bitsV_run hr'⟩
               · cases h
  case h_18 => split at h
               · rename_i hk; subst hk
                 obtain ⟨r', hr', rfl⟩ := Option.map_eq_some_iff.1 h
                 exact ⟨_, rfl, by simp only [Go.binOp]; simp only [ne_eq, not_true_eq_false, if_false]; exact bitsV_run hr'⟩
               · cases h
  case h_19 => split at h
               · rename_i hk; subst hk
                 obtain ⟨r', hr', rfl⟩ := Option.map_eq_some_iff.1 h
                 exact ⟨_, rfl, by simp only [Go.binOp]; simp only [ne_eq, not_true_eq_false, if_false]; exact bitsV_run hr'⟩
               · cases h
  case h_20 => split at h
               · rename_i hk; subst hk
                 obtain ⟨r', hr', rfl⟩ := Option.map_eq_some_iff.1 h
                 exact ⟨_, rfl, by simp only [Go.binOp]; simp only [ne_eq, not_true_eq_false, if_false]; exact bitsV_run hr'⟩
               · cases h
  case h_21 => cases h
theorem unV_run {op : UnOp} {u r : V} {xu : Value} (hu : u.toVal = some xu) (h : unV op u = some r) : ∃ yr, r.toVal = some yr ∧ (Op.unary op xu).run P w = .ok yr w := by
  unfold unV at h
  split at h
  all_goals (try simp only [V.toVal, Option.some.injEq, reduceCtorEq] at hu)
  all_goals (try subst hu)
  · cases h; exact ⟨_, rfl, by simp [Op.unary]⟩
  · cases h; exact ⟨_, rfl, by simp [Op.unary, Op.intArith]⟩
  · obtain ⟨r', hr', rfl⟩ := Option.map_eq_some_iff.1 h
    exact ⟨_, rfl, by simp only [Op.unary]; exact bitsV_run hr'⟩
  · cases h
theorem optV_run {v : Option V} {k : V → Prog} (hr : (optV v k).run σ = some σ') : ∃ u, v = some u ∧ (k u).run σ = some σ' := by
  cases v with
  | none => cases hr
  | some u => exact ⟨u, rfl, hr⟩
theorem binV_plain {op : BinOp} {u v r : V} (h : binV op u v = some r) : (∃ x, u.toVal = some x) ∧ ∃ y, v.toVal = some y := by
  unfold binV at h
  split at h <;> first | exact ⟨⟨_, rfl⟩, ⟨_, rfl⟩⟩ | cases h
theorem unV_plain {op : UnOp} {u r : V} (h : unV op u = some r) : ∃ x, u.toVal = some x := by
  unfold unV at h
  split at h <;> first | exact ⟨_, rfl⟩ | cases h
theorem op_bin {op : BinOp} {t t' : TypeId} {x y : Operand} {x' y' : Opd} (ho : o.op = .binOp op t x y t') (hne : op ≠ .eql ∧ op ≠ .neq) (hx : opd0 x = some x') (hy : opd0 y = some y') (hC : CoreS n E σ [] a.tmps.toList [] w.heap)
    (hr : (opProg callee base o.dst (.bin op x' y')).run σ = some σ') (K : NextOk n base E σ' a w next) : o.upon P a next Q ((execOp a.eval o).run P w) := by
  obtain ⟨u, hr, ⟨s, hS, _⟩, _⟩ := opd_rel (v := .nil) hC (opd0_ok a hx) hr
  obtain ⟨v, hr, ⟨s2, hS2, _⟩, _⟩ := opd_rel (v := .nil) hC (opd0_ok a hy) hr
  obtain ⟨r, hbin, hr⟩ := optV_run hr
  obtain ⟨⟨xu, hu⟩, ⟨xv, hv⟩⟩ := binV_plain hbin
  obtain ⟨yr, hyr, hrun⟩ := binV_run (P := P) (w := w) (t := t) hu hv hbin
  have e1 := slot_toVal hS hu
  have e2 := slot_toVal hS2 hv
  refine plain_end hC hyr hr K ?_
  simp only [execOp, ho, e1, e2]
  simp [eqGuard_skip hne, hrun]
theorem op_un {op : UnOp} {t : TypeId} {x : Operand} {x' : Opd} (ho : o.op = .unOp op t x) (hx : opd0 x = some x') (hC : CoreS n E σ [] a.tmps.toList [] w.heap)
    (hr : (opProg callee base o.dst (.un op x')).run σ = some σ') (K : NextOk n base E σ' a w next) : o.upon P a next Q ((execOp a.eval o).run P w) := by
  obtain ⟨u, hr, ⟨s, hS, _⟩, _⟩ := opd_rel (v := .nil) hC (opd0_ok a hx) hr
  obtain ⟨r, hun, hr⟩ := optV_run hr
  obtain ⟨xu, hu⟩ := unV_plain hun
  obtain ⟨yr, hyr, hrun⟩ := unV_run (P := P) (w := w) hu hun
  have e1 := slot_toVal hS hu
  refine plain_end hC hyr hr K ?_
  simp only [execOp, ho, e1]
  simp [hrun]
end
end Go.Vq
namespace Go.Vq
section
variable {P : Program} {n base : Nat} {E E' : Env} {σ σ' : St} {hs : List V} {ts xs : List Value} {H H' : Array Go.Obj}
variable {callee : Callee} {o : Oper} {a : Act} {w : World} {next : Act → World → Prop} {Q : Exit → Act → World → Prop}
def CellsRel (as : List V) (xs : Array Value) : Prop := as.length = xs.size ∧ ∀ (i : Nat) (u : V) (y : Value), as[i]? = some u → xs[i]? = some y → ∀ z, u.toVal = some z → y = z
theorem CellsRel.extract {as : List V} {xs : Array Value} (h : CellsRel as xs) (i m : Nat) (hm : i + m ≤ as.length) : CellsRel ((as.drop i).take m) (xs.extract i (i + m)) := by
  refine ⟨by rw [List.length_take, List.length_drop, Array.size_extract, ← h.1]; omega, fun j u y hu hy z hz => ?_⟩
  rw [List.getElem?_take] at hu
  split at hu
  · rename_i hj
    rw [List.getElem?_drop] at hu
    rw [Array.getElem?_extract] at hy
    split at hy
    · exact h.2 (i + j) u y hu hy z hz
    · cases hy
  · cases hu
theorem eqvs_append : ∀ (k1 k2 : List CK) (as bs : List V) (r : Bool), eqvs (k1 ++ k2) as bs = some r →
    k1.length + k2.length = as.length ∧ as.length = bs.length ∧ ∃ r1 r2, eqvs k1 (as.take k1.length) (bs.take k1.length) = some r1 ∧ eqvs k2 (as.drop k1.length) (bs.drop k1.length) = some r2 ∧ r = (r1 && r2)
  | [], k2, as, bs, r, h => by
    have hl : ∀ (ks : List CK) (as bs : List V) (r : Bool), eqvs ks as bs = some r → ks.length = as.length ∧ as.length = bs.length := by
      intro ks
      induction ks with
      | nil => intro as bs r h; cases as <;> cases bs <;> first | exact ⟨rfl, rfl⟩ | cases h
      | cons k ks ih =>
        intro as bs r h
        cases as <;> cases bs <;> try (cases h; done)
        simp only [eqvs, Option.bind_eq_bind, Option.pure_def] at h
        obtain ⟨p, hp, h⟩ := Option.bind_eq_some_iff.1 h
        obtain ⟨q, hq, h⟩ := Option.bind_eq_some_iff.1 h
        have := ih _ _ _ hq
        simp [this.1, this.2]
    have := hl _ _ _ _ h
    exact ⟨by simpa using this.1, this.2, true, r, rfl, h, by simp⟩
  | k :: k1, k2, as, bs, r, h => by
    cases as <;> cases bs <;> try (cases h; done)
    rename_i x as y bs
    simp only [List.cons_append, eqvs, Option.bind_eq_bind, Option.pure_def] at h
    obtain ⟨p, hp, h⟩ := Option.bind_eq_some_iff.1 h
    obtain ⟨q, hq, h⟩ := Option.bind_eq_some_iff.1 h
    cases h
    obtain ⟨l1, l2, r1, r2, h1, h2, h3⟩ := eqvs_append k1 k2 as bs q hq
    refine ⟨by simp at l1 ⊢; omega, by simp [l2], p && r1, r2, by simp [eqvs, hp, h1], h2, by rw [h3, Bool.and_assoc]⟩
theorem run_under {t : TypeId} {d : TypeDesc} (h : under P t = some d) : (underlying t).run P w = .ok d w := run_underlying h w
theorem run_size {t : TypeId} {m : Nat} (h : szOf P t = some m) : (sizeOf t).run P w = .ok m w := by
  unfold szOf at h
  obtain ⟨i, hi, rfl⟩ := Option.map_eq_some_iff.1 h
  simp [sizeOf, typeInfo, hi]
theorem run_aggOf {t : TypeId} {b : Bool} (h : aggOf P t = some b) : (isAgg t).run P w = .ok b w := by
  unfold aggOf at h
  simp only [Option.bind_eq_bind, Option.pure_def] at h
  obtain ⟨d, hd, h⟩ := Option.bind_eq_some_iff.1 h
  simp only [isAgg, Sem.run_bind, run_under hd, Result.andThen_ok]
  cases d <;> simp at h <;> subst h <;> rfl
def Fits (P : Program) (t : TypeId) (as : List V) (x : Value) : Prop :=
  (aggOf P t = some true ∧ ∃ xs, x = .agg xs ∧ CellsRel as xs) ∨ (aggOf P t = some false ∧ ∃ u, as = [u] ∧ ∀ z, u.toVal = some z → x = z)
theorem part_run {t : TypeId} {as : List V} {xs : Array Value} {off m : Nat} (hc : CellsRel as xs) (hm : off + m ≤ as.length) (hs : szOf P t = some m) {b : Bool} (ha : aggOf P t = some b) (h1 : b = false → m = 1) :
    ∃ x, (part t xs off).run P w = .ok x w ∧ Fits P t ((as.drop off).take m) x := by
  unfold part
  simp only [Sem.run_bind, run_aggOf ha, Result.andThen_ok]
  cases b with
  | true =>
    refine ⟨.agg (xs.extract off (off + m)), ?_, .inl ⟨ha, _, rfl, hc.extract off m hm⟩⟩
    simp [run_size hs]
  | false =>
    have hm1 := h1 rfl
    subst hm1
    obtain ⟨u, hu⟩ := exists_getElem? (l := as) (i := off) (by omega)
    have hlt : off < xs.size := by have := hc.1; omega
    refine ⟨xs[off], by simp [hlt], .inr ⟨ha, u, ?_, fun z hz => hc.2 off u xs[off] hu (by simp [hlt]) z hz⟩⟩
    rw [List.drop_eq_getElem_cons (by omega)]
    rw [List.getElem?_eq_getElem (by omega)] at hu
    simp at hu; simp [hu]
theorem lay_agg : ∀ (m : Nat) {t : TypeId} {ks : List CK}, eqLay P m t = some ks → ∃ b, aggOf P t = some b ∧ (b = false → ks.length = 1)
  | 0, _, _, h => by cases h
  | m + 1, t, ks, h => by
    unfold eqLay at h
    unfold aggOf
    cases hu : under P t with
    | none => simp [hu] at h
    | some d =>
      rw [hu] at h
      cases d <;> simp at h
      all_goals first
        | (subst h; exact ⟨false, rfl, fun _ => rfl⟩)
        | exact ⟨true, rfl, fun h => by cases h⟩
theorem equalIn_run : ∀ (m d : Nat) (t : TypeId) (ks : List CK) (as bs : List V) (x y : Value) (r : Bool), m ≤ d → eqLay P m t = some ks → Fits P t as x → Fits P t bs y → eqvs ks as bs = some r → (Op.equalIn d t x y).run P w = .ok r w
  | 0, _, _, _, _, _, _, _, _, _, h, _, _, _ => by cases h
  | m + 1, 0, _, _, _, _, _, _, _, hm, _, _, _, _ => by omega
  | m + 1, d + 1, t, ks, as, bs, x, y, r, hm, h, hx, hy, he => by
    unfold eqLay at h
    cases hu : under P t with
    | none => simp [hu] at h
    | some dd =>
      rw [hu] at h
      have scal : aggOf P t = some false → (∃ u, as = [u] ∧ ∀ z, u.toVal = some z → x = z) ∧ ∃ v, bs = [v] ∧ ∀ z, v.toVal = some z → y = z := by
        intro ha
        constructor
        · rcases hx with ⟨h1, _⟩ | ⟨_, h2⟩
          · rw [ha] at h1; cases h1
          · exact h2
        · rcases hy with ⟨h1, _⟩ | ⟨_, h2⟩
          · rw [ha] at h1; cases h1
          · exact h2
      have aggs : aggOf P t = some true → (∃ xs, x = .agg xs ∧ CellsRel as xs) ∧ ∃ ys, y = .agg ys ∧ CellsRel bs ys := by
        intro ha
        constructor
        · rcases hx with ⟨_, h2⟩ | ⟨h1, _⟩
          · exact h2
          · rw [ha] at h1; cases h1
        · rcases hy with ⟨_, h2⟩ | ⟨h1, _⟩
          · exact h2
          · rw [ha] at h1; cases h1
      cases dd <;> simp at h
      case bool =>
        subst h
        obtain ⟨⟨u, rfl, h1⟩, v, rfl, h2⟩ := scal (by simp [aggOf, hu])
        simp only [eqvs, Option.bind_eq_bind, Option.pure_def] at he
        replace he := Option.bind_eq_some_iff.1 he
        obtain ⟨p, hp, he⟩ := he
        cases u <;> cases v <;> simp only [eqv1, reduceCtorEq] at hp
        simp [eqvs] at he hp; subst hp; subst he
        rw [h1 _ rfl, h2 _ rfl]
        exact run_equalIn_bool' w d t _ _ hu
      case int k =>
        subst h
        obtain ⟨⟨u, rfl, h1⟩, v, rfl, h2⟩ := scal (by simp [aggOf, hu])
        simp only [eqvs, Option.bind_eq_bind, Option.pure_def] at he
        replace he := Option.bind_eq_some_iff.1 he
        obtain ⟨p, hp, he⟩ := he
        cases u <;> cases v <;> simp only [eqv1, reduceCtorEq] at hp
        split at hp
        · rename_i hk; obtain ⟨rfl, rfl⟩ := hk
          simp [eqvs] at he hp; subst hp; subst he
          rw [h1 _ rfl, h2 _ rfl]
          exact run_equalIn_int w d t _ _ _ _ hu
        · cases hp
      case string =>
        subst h
        obtain ⟨⟨u, rfl, h1⟩, v, rfl, h2⟩ := scal (by simp [aggOf, hu])
        simp only [eqvs, Option.bind_eq_bind, Option.pure_def] at he
        replace he := Option.bind_eq_some_iff.1 he
        obtain ⟨p, hp, he⟩ := he
        cases u <;> cases v <;> simp only [eqv1, reduceCtorEq] at hp
        simp [eqvs] at he hp; subst hp; subst he
        rw [h1 _ rfl, h2 _ rfl, run_equalIn_string w d t _ _ hu]
        simp
      case array len e =>
        obtain ⟨⟨xs, rfl, h1⟩, ys, rfl, h2⟩ := aggs (by simp [aggOf, hu])
        split at h
        · rename_i mk hl
          split at h
          case isFalse => cases h
          rename_i hs
          cases h
          obtain ⟨b, ha, hb1⟩ := lay_agg m hl
          have hsz := hs
          unfold szOf at hsz
          obtain ⟨inf, hinf, hsz⟩ := Option.map_eq_some_iff.1 hsz
          have hce : P.cellsOf e = mk.length := by simp [Program.cellsOf, hinf, hsz]
          rw [run_equalIn_array w d xs ys hu hinf, hce]
          have key : ∀ (cnt i : Nat) (r : Bool), eqvs (List.replicate cnt mk).flatten (as.drop (i * mk.length)) (bs.drop (i * mk.length)) = some r →
              (Op.eqItems d e mk.length xs ys (List.range' i cnt)).run P w = .ok r w := by
            intro cnt
            induction cnt with
            | zero => intro i r hq; cases hd1 : as.drop (i * mk.length) <;> cases hd2 : bs.drop (i * mk.length) <;> rw [hd1, hd2] at hq <;> first | (cases hq; simp [Op.eqItems]) | cases hq
            | succ cnt ih =>
              intro i r hq
              rw [List.replicate_succ, List.flatten_cons] at hq
              obtain ⟨l1, l2, r1, r2, q1, q2, rfl⟩ := eqvs_append _ _ _ _ _ hq
              rw [List.length_drop, List.length_drop] at l2
              rw [List.length_drop] at l1
              have hle1 : mk.length = 0 ∨ i * mk.length + mk.length ≤ as.length := by omega
              have hA : i * mk.length + mk.length ≤ as.length ∨ mk.length = 0 := hle1.symm
              rw [List.drop_drop, List.drop_drop] at q2
              have e2 : i * mk.length + mk.length = (i + 1) * mk.length := by rw [Nat.add_mul, Nat.one_mul]
              rw [e2] at q2
              have hq2 := ih (i + 1) r2 q2
              rcases Nat.eq_zero_or_pos mk.length with h0 | h0
              · have hb : b = true := by cases b with | true => rfl | false => have := hb1 rfl; omega
                subst hb
                have p1 : (part e xs (i * mk.length)).run P w = .ok (.agg (xs.extract (i * mk.length) (i * mk.length + mk.length))) w := by
                  simp [part, run_aggOf ha, run_size hs]
                have p2 : (part e ys (i * mk.length)).run P w = .ok (.agg (ys.extract (i * mk.length) (i * mk.length + mk.length))) w := by
                  simp [part, run_aggOf ha, run_size hs]
                have hmk : mk = [] := List.eq_nil_of_length_eq_zero h0
                have f1 : Fits P e [] (.agg (xs.extract (i * mk.length) (i * mk.length + mk.length))) := .inl ⟨ha, _, rfl, by simp only [List.length_nil, Array.size_extract, h0]; omega, fun i u y hu => by simp at hu⟩
                have f2 : Fits P e [] (.agg (ys.extract (i * mk.length) (i * mk.length + mk.length))) := .inl ⟨ha, _, rfl, by simp only [List.length_nil, Array.size_extract, h0]; omega, fun i u y hu => by simp at hu⟩
                have q3 := equalIn_run m d e mk [] [] _ _ true (by omega) hl f1 f2 (by rw [hmk]; rfl)
                have hr1 : r1 = true := by rw [hmk] at q1; simp at q1; cases q1; rfl
                simp only [List.range'_succ, Op.eqItems, Sem.run_bind, p1, p2, q3, Result.andThen_ok]
                subst hr1
                simpa using hq2
              · have hle : i * mk.length + mk.length ≤ as.length := by omega
                obtain ⟨x', p1, f1⟩ := part_run (w := w) h1 hle hs ha hb1
                obtain ⟨y', p2, f2⟩ := part_run (w := w) (m := mk.length) (off := i * mk.length) h2 (by omega) hs ha hb1
                have q3 := equalIn_run m d e mk _ _ x' y' r1 (by omega) hl f1 f2 q1
                simp only [List.range'_succ, Op.eqItems, Sem.run_bind, p1, p2, q3, Result.andThen_ok]
                cases r1
                · simp only [Bool.not_false, if_true, Bool.false_and, Sem.run_pure]
                · simpa using hq2
          have := key len 0 r (by simpa using he)
          rw [List.range_eq_range']; exact this
        · cases h
      case struct fs =>
        obtain ⟨⟨xs, rfl, h1⟩, ys, rfl, h2⟩ := aggs (by simp [aggOf, hu])
        obtain ⟨hst, h⟩ := h
        have hfo : P.underlying t = some (.struct (P.fieldsOf t)) := by
          have hu' : P.underlying t = some (.struct fs) := hu
          simp only [Program.fieldsOf, hu']
        have hfs : (P.fieldsOf t) = fs := by
          have hu' : P.underlying t = some (.struct fs) := hu
          simp [Program.fieldsOf, hu']
        rw [run_equalIn_struct w d t xs ys hfo hst, hfs]
        have key : ∀ (l : List Field) (off : Nat) (ks : List CK) (r : Bool), eqFields P (eqLay P m) l off = some ks → eqvs ks (as.drop off) (bs.drop off) = some r →
            (Op.eqFields d xs ys l).run P w = .ok r w := by
          intro l
          induction l with
          | nil => intro off ks r hk hq; cases hk; cases hd1 : as.drop off <;> cases hd2 : bs.drop off <;> rw [hd1, hd2] at hq <;> first | (cases hq; simp [Op.eqFields]) | cases hq
          | cons f l ih =>
            intro off ks r hk hq
            simp only [eqFields] at hk
            split at hk
            · rename_i mk hl
              split at hk
              · rename_i hc
                obtain ⟨hn, rfl, hs⟩ := hc
                obtain ⟨ks', hk', rfl⟩ := Option.map_eq_some_iff.1 hk
                obtain ⟨l1, l2, r1, r2, q1, q2, rfl⟩ := eqvs_append _ _ _ _ _ hq
                rw [List.length_drop, List.length_drop] at l2
                rw [List.length_drop] at l1
                rw [List.drop_drop, List.drop_drop] at q2
                have hq2 := ih _ ks' r2 hk' q2
                obtain ⟨b, ha, hb1⟩ := lay_agg m hl
                rcases Nat.eq_zero_or_pos mk.length with h0 | h0
                · have hb : b = true := by cases b with | true => rfl | false => have := hb1 rfl; omega
                  subst hb
                  have p1 : (part f.type xs f.offset).run P w = .ok (.agg (xs.extract f.offset (f.offset + mk.length))) w := by
                    simp [part, run_aggOf ha, run_size hs]
                  have p2 : (part f.type ys f.offset).run P w = .ok (.agg (ys.extract f.offset (f.offset + mk.length))) w := by
                    simp [part, run_aggOf ha, run_size hs]
                  have hmk : mk = [] := List.eq_nil_of_length_eq_zero h0
                  have f1 : Fits P f.type [] (.agg (xs.extract f.offset (f.offset + mk.length))) := .inl ⟨ha, _, rfl, by simp only [List.length_nil, Array.size_extract, h0]; omega, fun i u y hu => by simp at hu⟩
                  have f2 : Fits P f.type [] (.agg (ys.extract f.offset (f.offset + mk.length))) := .inl ⟨ha, _, rfl, by simp only [List.length_nil, Array.size_extract, h0]; omega, fun i u y hu => by simp at hu⟩
                  have q3 := equalIn_run m d f.type mk [] [] _ _ true (by omega) hl f1 f2 (by rw [hmk]; rfl)
                  have hr1 : r1 = true := by rw [hmk] at q1; simp at q1; cases q1; rfl
                  simp only [Op.eqFields, hn, ne_eq, not_false_eq_true, if_true, Sem.run_bind, p1, p2, q3, Result.andThen_ok]
                  subst hr1
                  simpa using hq2
                · obtain ⟨x', p1, f1⟩ := part_run (w := w) h1 (off := f.offset) (by omega) hs ha hb1
                  obtain ⟨y', p2, f2⟩ := part_run (w := w) h2 (off := f.offset) (by omega) hs ha hb1
                  have q3 := equalIn_run m d f.type mk _ _ x' y' r1 (by omega) hl f1 f2 q1
                  simp only [Op.eqFields, hn, ne_eq, not_false_eq_true, if_true, Sem.run_bind, p1, p2, q3, Result.andThen_ok]
                  cases r1
                  · simp
                  · simpa using hq2
              · cases hk
            · cases hk
        exact key fs.toList 0 ks r h (by simpa using he)
end
end Go.Vq
