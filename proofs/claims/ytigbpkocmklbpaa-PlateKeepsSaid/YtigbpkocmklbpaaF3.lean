/- A machine of values and its tie to the model, and runs of it: part 3 of 14 (no law of Go is stated here). -/
import Derived.Test.YtigbpkocmklbpaaF2
import Derived.ChangeKeysEq
import Derived.Laws.Cover3
import Derived.Laws.BytesString
set_option linter.unusedVariables false
set_option linter.unusedSimpArgs false
set_option linter.unusedSectionVars false
namespace Go.Vq
section
variable {P : Program} {n base : Nat} {E E' : Env} {σ σ' : St} {hs : List V} {ts xs : List Value} {H H' : Array Go.Obj}
variable {callee : Callee} {o : Oper} {a : Act} {w : World} {next : Act → World → Prop} {Q : Exit → Act → World → Prop}
def CellsRel (as : List V) (xs : Array Value) : Prop := as.length = xs.size ∧ ∀ (i : Nat) (u : V) (y : Value), as[i]? = some u → xs[i]? = some y → ∀ z, u.toVal = some z → y = z
theorem CellsRel.extract {as : List V} {xs : Array Value} (h : CellsRel as xs) (i m : Nat) (hm : i + m ≤ as.length) : CellsRel ((as.drop i).take m) (xs.extract i (i + m)) := by
  refine ⟨by rw [List.length_take, List.length_drop, Array.size_extract, ← h.1]; omega, fun j u y hu hy z hz => ?_⟩
  rw [List.getElem?_take] at hu
  split at hu
  · rename_i hj
    rw [List.getElem?_drop] at hu
    rw [Array.getElem?_extract] at hy
    split at hy
    · exact h.2 (i + j) u y hu hy z hz
    · cases hy
  · cases hu
theorem eqvs_append : ∀ (k1 k2 : List CK) (as bs : List V) (r : Bool), eqvs (k1 ++ k2) as bs = some r →
    k1.length + k2.length = as.length ∧ as.length = bs.length ∧ ∃ r1 r2, eqvs k1 (as.take k1.length) (bs.take k1.length) = some r1 ∧ eqvs k2 (as.drop k1.length) (bs.drop k1.length) = some r2 ∧ r = (r1 && r2)
  | [], k2, as, bs, r, h => by
    have hl : ∀ (ks : List CK) (as bs : List V) (r : Bool), eqvs ks as bs = some r → ks.length = as.length ∧ as.length = bs.length := by
      intro ks
      induction ks with
      | nil => intro as bs r h; cases as <;> cases bs <;> first | exact ⟨rfl, rfl⟩ | cases h
      | cons k ks ih =>
        intro as bs r h
        cases as <;> cases bs <;> try (cases h; done)
        simp only [eqvs, Option.bind_eq_bind, Option.pure_def] at h
        obtain ⟨p, hp, h⟩ := Option.bind_eq_some_iff.1 h
        obtain ⟨q, hq, h⟩ := Option.bind_eq_some_iff.1 h
        have := ih _ _ _ hq
        simp [this.1, this.2]
    have := hl _ _ _ _ h
    exact ⟨by simpa using this.1, this.2, true, r, rfl, h, by simp⟩
  | k :: k1, k2, as, bs, r, h => by
    cases as <;> cases bs <;> try (cases h; done)
    rename_i x as y bs
    simp only [List.cons_append, eqvs, Option.bind_eq_bind, Option.pure_def] at h
    obtain ⟨p, hp, h⟩ := Option.bind_eq_some_iff.1 h
    obtain ⟨q, hq, h⟩ := Option.bind_eq_some_iff.1 h
    cases h
    obtain ⟨l1, l2, r1, r2, h1, h2, h3⟩ := eqvs_append k1 k2 as bs q hq
    refine ⟨by simp at l1 ⊢; omega, by simp [l2], p && r1, r2, by simp [eqvs, hp, h1], h2, by rw [h3, Bool.and_assoc]⟩
theorem run_under {t : TypeId} {d : TypeDesc} (h : under P t = some d) : (underlying t).run P w = .ok d w := run_underlying h w
theorem run_size {t : TypeId} {m : Nat} (h : szOf P t = some m) : (sizeOf t).run P w = .ok m w := by
  unfold szOf at h
  obtain ⟨i, hi, rfl⟩ := Option.map_eq_some_iff.1 h
  simp [sizeOf, typeInfo, hi]
theorem run_aggOf {t : TypeId} {b : Bool} (h : aggOf P t = some b) : (isAgg t).run P w = .ok b w := by
  unfold aggOf at h
  simp only [Option.bind_eq_bind, Option.pure_def] at h
  obtain ⟨d, hd, h⟩ := Option.bind_eq_some_iff.1 h
  simp only [isAgg, Sem.run_bind, run_under hd, Result.andThen_ok]
  cases d <;> simp at h <;> subst h <;> rfl
def Fits (P : Program) (t : TypeId) (as : List V) (x : Value) : Prop :=
  (aggOf P t = some true ∧ ∃ xs, x = .agg xs ∧ CellsRel as xs) ∨ (aggOf P t = some false ∧ ∃ u, as = [u] ∧ ∀ z, u.toVal = some z → x = z)
theorem part_run {t : TypeId} {as : List V} {xs : Array Value} {off m : Nat} (hc : CellsRel as xs) (hm : off + m ≤ as.length) (hs : szOf P t = some m) {b : Bool} (ha : aggOf P t = some b) (h1 : b = false → m = 1) :
    ∃ x, (part t xs off).run P w = .ok x w ∧ Fits P t ((as.drop off).take m) x := by
  unfold part
  simp only [Sem.run_bind, run_aggOf ha, Result.andThen_ok]
  cases b with
  | true =>
    refine ⟨.agg (xs.extract off (off + m)), ?_, .inl ⟨ha, _, rfl, hc.extract off m hm⟩⟩
    simp [run_size hs]
  | false =>
    have hm1 := h1 rfl
    subst hm1
    obtain ⟨u, hu⟩ := exists_getElem? (l := as) (i := off) (by omega)
    have hlt : off < xs.size := by have := hc.1; omega
    refine ⟨xs[off], by simp [hlt], .inr ⟨ha, u, ?_, fun z hz => hc.2 off u xs[off] hu (by simp [hlt]) z hz⟩⟩
    rw [List.drop_eq_getElem_cons (by omega)]
    rw [List.getElem?_eq_getElem (by omega)] at hu
    simp at hu; simp [hu]
theorem lay_agg : ∀ (m : Nat) {t : TypeId} {ks : List CK}, eqLay P m t = some ks → ∃ b, aggOf P t = some b ∧ (b = false → ks.length = 1)
  | 0, _, _, h => by cases h
  | m + 1, t, ks, h => by
    unfold eqLay at h
    unfold aggOf
    cases hu : under P t with
    | none => simp [hu] at h
    | some d =>
      rw [hu] at h
      cases d <;> simp at h
      all_goals first
        | (subst h; exact ⟨false, rfl, fun _ => rfl⟩)
        | exact ⟨true, rfl, fun h => by cases h⟩
theorem equalIn_run : ∀ (m d : Nat) (t : TypeId) (ks : List CK) (as bs : List V) (x y : Value) (r : Bool), m ≤ d → eqLay P m t = some ks → Fits P t as x → Fits P t bs y → eqvs ks as bs = some r → (Op.equalIn d t x y).run P w = .ok r w
  | 0, _, _, _, _, _, _, _, _, _, h, _, _, _ => by cases h
  | m + 1, 0, _, _, _, _, _, _, _, hm, _, _, _, _ => by omega
  | m + 1, d + 1, t, ks, as, bs, x, y, r, hm, h, hx, hy, he => by
    unfold eqLay at h
    cases hu : under P t with
    | none => simp [hu] at h
    | some dd =>
      rw [hu] at h
      have scal : aggOf P t = some false → (∃ u, as = [u] ∧ ∀ z, u.toVal = some z → x = z) ∧ ∃ v, bs = [v] ∧ ∀ z, v.toVal = some z → y = z := by
        intro ha
        constructor
        · rcases hx with ⟨h1, _⟩ | ⟨_, h2⟩
          · rw [ha] at h1; cases h1
          · exact h2
        · rcases hy with ⟨h1, _⟩ | ⟨_, h2⟩
          · rw [ha] at h1; cases h1
          · exact h2
      have aggs : aggOf P t = some true → (∃ xs, x = .agg xs ∧ CellsRel as xs) ∧ ∃ ys, y = .agg ys ∧ CellsRel bs ys := by
        intro ha
        constructor
        · rcases hx with ⟨_, h2⟩ | ⟨h1, _⟩
          · exact h2
          · rw [ha] at h1; cases h1
        · rcases hy with ⟨_, h2⟩ | ⟨h1, _⟩
          · exact h2
          · rw [ha] at h1; cases h1
      cases dd <;> simp at h
      case bool =>
        subst h
        obtain ⟨⟨u, rfl, h1⟩, v, rfl, h2⟩ := scal (by simp [aggOf, hu])
        simp only [eqvs, Option.bind_eq_bind, Option.pure_def] at he
        replace he := Option.bind_eq_some_iff.1 he
        obtain ⟨p, hp, he⟩ := he
        cases u <;> cases v <;> simp only [eqv1, reduceCtorEq] at hp
        simp [eqvs] at he hp; subst hp; subst he
        rw [h1 _ rfl, h2 _ rfl]
        exact run_equalIn_bool' w d t _ _ hu
      case int k =>
        subst h
        obtain ⟨⟨u, rfl, h1⟩, v, rfl, h2⟩ := scal (by simp [aggOf, hu])
        simp only [eqvs, Option.bind_eq_bind, Option.pure_def] at he
        replace he := Option.bind_eq_some_iff.1 he
        obtain ⟨p, hp, he⟩ := he
        cases u <;> cases v <;> simp only [eqv1, reduceCtorEq] at hp
        split at hp
        · rename_i hk; obtain ⟨rfl, rfl⟩ := hk
          simp [eqvs] at he hp; subst hp; subst he
          rw [h1 _ rfl, h2 _ rfl]
          exact run_equalIn_int w d t _ _ _ _ hu
        · cases hp
      case string =>
        subst h
        obtain ⟨⟨u, rfl, h1⟩, v, rfl, h2⟩ := scal (by simp [aggOf, hu])
        simp only [eqvs, Option.bind_eq_bind, Option.pure_def] at he
        replace he := Option.bind_eq_some_iff.1 he
        obtain ⟨p, hp, he⟩ := he
        cases u <;> cases v <;> simp only [eqv1, reduceCtorEq] at hp
        simp [eqvs] at he hp; subst hp; subst he
        rw [h1 _ rfl, h2 _ rfl, run_equalIn_string w d t _ _ hu]
        simp
      case array len e =>
        obtain ⟨⟨xs, rfl, h1⟩, ys, rfl, h2⟩ := aggs (by simp [aggOf, hu])
        split at h
        · rename_i mk hl
          split at h
          case isFalse => cases h
          rename_i hs
          cases h
          obtain ⟨b, ha, hb1⟩ := lay_agg m hl
          have hsz := hs
          unfold szOf at hsz
          obtain ⟨inf, hinf, hsz⟩ := Option.map_eq_some_iff.1 hsz
          have hce : P.cellsOf e = mk.length := by simp [Program.cellsOf, hinf, hsz]
          rw [run_equalIn_array w d xs ys hu hinf, hce]
          have key : ∀ (cnt i : Nat) (r : Bool), eqvs (List.replicate cnt mk).flatten (as.drop (i * mk.length)) (bs.drop (i * mk.length)) = some r →
              (Op.eqItems d e mk.length xs ys (List.range' i cnt)).run P w = .ok r w := by
            intro cnt
            induction cnt with
            | zero => intro i r hq; cases hd1 : as.drop (i * mk.length) <;> cases hd2 : bs.drop (i * mk.length) <;> rw [hd1, hd2] at hq <;> first | (cases hq; simp [Op.eqItems]) | cases hq
            | succ cnt ih =>
              intro i r hq
              rw [List.replicate_succ, List.flatten_cons] at hq
              obtain ⟨l1, l2, r1, r2, q1, q2, rfl⟩ := eqvs_append _ _ _ _ _ hq
              rw [List.length_drop, List.length_drop] at l2
              rw [List.length_drop] at l1
              have hle1 : mk.length = 0 ∨ i * mk.length + mk.length ≤ as.length := by omega
              have hA : i * mk.length + mk.length ≤ as.length ∨ mk.length = 0 := hle1.symm
              rw [List.drop_drop, List.drop_drop] at q2
              have e2 : i * mk.length + mk.length = (i + 1) * mk.length := by rw [Nat.add_mul, Nat.one_mul]
              rw [e2] at q2
              have hq2 := ih (i + 1) r2 q2
              rcases Nat.eq_zero_or_pos mk.length with h0 | h0
              · have hb : b = true := by cases b with | true => rfl | false => have := hb1 rfl; omega
                subst hb
                have p1 : (part e xs (i * mk.length)).run P w = .ok (.agg (xs.extract (i * mk.length) (i * mk.length + mk.length))) w := by
                  simp [part, run_aggOf ha, run_size hs]
                have p2 : (part e ys (i * mk.length)).run P w = .ok (.agg (ys.extract (i * mk.length) (i * mk.length + mk.length))) w := by
                  simp [part, run_aggOf ha, run_size hs]
                have hmk : mk = [] := List.eq_nil_of_length_eq_zero h0
                have f1 : Fits P e [] (.agg (xs.extract (i * mk.length) (i * mk.length + mk.length))) := .inl ⟨ha, _, rfl, by simp only [List.length_nil, Array.size_extract, h0]; omega, fun i u y hu => by simp at hu⟩
                have f2 : Fits P e [] (.agg (ys.extract (i * mk.length) (i * mk.length + mk.length))) := .inl ⟨ha, _, rfl, by simp only [List.length_nil, Array.size_extract, h0]; omega, fun i u y hu => by simp at hu⟩
                have q3 := equalIn_run m d e mk [] [] _ _ true (by omega) hl f1 f2 (by rw [hmk]; rfl)
                have hr1 : r1 = true := by rw [hmk] at q1; simp at q1; cases q1; rfl
                simp only [List.range'_succ, Op.eqItems, Sem.run_bind, p1, p2, q3, Result.andThen_ok]
                subst hr1
                simpa using hq2
              · have hle : i * mk.length + mk.length ≤ as.length := by omega
                obtain ⟨x', p1, f1⟩ := part_run (w := w) h1 hle hs ha hb1
                obtain ⟨y', p2, f2⟩ := part_run (w := w) (m := mk.length) (off := i * mk.length) h2 (by omega) hs ha hb1
                have q3 := equalIn_run m d e mk _ _ x' y' r1 (by omega) hl f1 f2 q1
                simp only [List.range'_succ, Op.eqItems, Sem.run_bind, p1, p2, q3, Result.andThen_ok]
                cases r1
                · simp only [Bool.not_false, if_true, Bool.false_and, Sem.run_pure]
                · simpa using hq2
          have := key len 0 r (by simpa using he)
          rw [List.range_eq_range']; exact this
        · cases h
      case struct fs =>
        obtain ⟨⟨xs, rfl, h1⟩, ys, rfl, h2⟩ := aggs (by simp [aggOf, hu])
        obtain ⟨hst, h⟩ := h
        have hfo : P.underlying t = some (.struct (P.fieldsOf t)) := by
          have hu' : P.underlying t = some (.struct fs) := hu
          simp only [Program.fieldsOf, hu']
        have hfs : (P.fieldsOf t) = fs := by
          have hu' : P.underlying t = some (.struct fs) := hu
          simp [Program.fieldsOf, hu']
        rw [run_equalIn_struct w d t xs ys hfo hst, hfs]
        have key : ∀ (l : List Field) (off : Nat) (ks : List CK) (r : Bool), eqFields P (eqLay P m) l off = some ks → eqvs ks (as.drop off) (bs.drop off) = some r →
            (Op.eqFields d xs ys l).run P w = .ok r w := by
          intro l
          induction l with
          | nil => intro off ks r hk hq; cases hk; cases hd1 : as.drop off <;> cases hd2 : bs.drop off <;> rw [hd1, hd2] at hq <;> first | (cases hq; simp [Op.eqFields]) | cases hq
          | cons f l ih =>
            intro off ks r hk hq
            simp only [eqFields] at hk
            split at hk
            · rename_i mk hl
              split at hk
              · rename_i hc
                obtain ⟨hn, rfl, hs⟩ := hc
                obtain ⟨ks', hk', rfl⟩ := Option.map_eq_some_iff.1 hk
                obtain ⟨l1, l2, r1, r2, q1, q2, rfl⟩ := eqvs_append _ _ _ _ _ hq
                rw [List.length_drop, List.length_drop] at l2
                rw [List.length_drop] at l1
                rw [List.drop_drop, List.drop_drop] at q2
                have hq2 := ih _ ks' r2 hk' q2
                obtain ⟨b, ha, hb1⟩ := lay_agg m hl
                rcases Nat.eq_zero_or_pos mk.length with h0 | h0
                · have hb : b = true := by cases b with | true => rfl | false => have := hb1 rfl; omega
                  subst hb
                  have p1 : (part f.type xs f.offset).run P w = .ok (.agg (xs.extract f.offset (f.offset + mk.length))) w := by
                    simp [part, run_aggOf ha, run_size hs]
                  have p2 : (part f.type ys f.offset).run P w = .ok (.agg (ys.extract f.offset (f.offset + mk.length))) w := by
                    simp [part, run_aggOf ha, run_size hs]
                  have hmk : mk = [] := List.eq_nil_of_length_eq_zero h0
                  have f1 : Fits P f.type [] (.agg (xs.extract f.offset (f.offset + mk.length))) := .inl ⟨ha, _, rfl, by simp only [List.length_nil, Array.size_extract, h0]; omega, fun i u y hu => by simp at hu⟩
                  have f2 : Fits P f.type [] (.agg (ys.extract f.offset (f.offset + mk.length))) := .inl ⟨ha, _, rfl, by simp only [List.length_nil, Array.size_extract, h0]; omega, fun i u y hu => by simp at hu⟩
                  have q3 := equalIn_run m d f.type mk [] [] _ _ true (by omega) hl f1 f2 (by rw [hmk]; rfl)
                  have hr1 : r1 = true := by rw [hmk] at q1; simp at q1; cases q1; rfl
                  simp only [Op.eqFields, hn, ne_eq, not_false_eq_true, if_true, Sem.run_bind, p1, p2, q3, Result.andThen_ok]
                  subst hr1
                  simpa using hq2
                · obtain ⟨x', p1, f1⟩ := part_run (w := w) h1 (off := f.offset) (by omega) hs ha hb1
                  obtain ⟨y', p2, f2⟩ := part_run (w := w) h2 (off := f.offset) (by omega) hs ha hb1
                  have q3 := equalIn_run m d f.type mk _ _ x' y' r1 (by omega) hl f1 f2 q1
                  simp only [Op.eqFields, hn, ne_eq, not_false_eq_true, if_true, Sem.run_bind, p1, p2, q3, Result.andThen_ok]
                  cases r1
                  · simp
                  · simpa using hq2
              · cases hk
            · cases hk
        exact key fs.toList 0 ks r h (by simpa using he)
end
end Go.Vq
namespace Go.Vq
section
variable {P : Program} {n base : Nat} {E E' : Env} {σ σ' : St} {hs : List V} {ts xs : List Value} {H H' : Array Go.Obj}
variable {callee : Callee} {o : Oper} {a : Act} {w : World} {next : Act → World → Prop} {Q : Exit → Act → World → Prop}
def EqRun (P : Program) (w : World) (t : TypeId) (x y : Value) (r : Bool) : Prop :=
  ∀ ox oy, ((do eqGuard .eql t ox oy x y; binOp .eql t x y : Sem Value).run P w = .ok (.bool r) w) ∧ (do eqGuard .neq t ox oy x y; binOp .neq t x y : Sem Value).run P w = .ok (.bool !r) w
theorem EqRun.of_equal {t : TypeId} {x y : Value} {r : Bool} (h : (Op.equal t x y).run P w = .ok r w) (hx : (leafX x = true ∧ x ≠ .nilIface) ∨ ((∃ xs ys, x = .agg xs ∧ y = .agg ys) ∧ P.eqGuardType P.depth t = false))
    (hb : ∀ op, (op = .eql → binOp op t x y = (do pure (.bool (← Op.equal t x y)))) ∧ (op = .neq → binOp op t x y = (do pure (.bool (!(← Op.equal t x y)))))) : EqRun P w t x y r := by
  intro ox oy
  have hg : ∀ op, (eqGuard op t ox oy x y).run P w = .ok () w := by
    intro op
    rcases hx with ⟨h1, h2⟩ | ⟨⟨xs, ys, rfl, rfl⟩, h2⟩
    · exact eqGuard_plain h1 h2
    · cases op <;> simp [eqGuard, h2]
  constructor
  · simp only [Sem.run_bind, hg, Result.andThen_ok]
    rw [(hb .eql).1 rfl]; simp [h]
  · simp only [Sem.run_bind, hg, Result.andThen_ok]
    rw [(hb .neq).2 rfl]; simp [h]
theorem relE {slots : List V} {objs : List (Option Obj)} {vals : List Value} {s : Nat} {v : V} {x : Value} (hS : SlotRel E slots objs vals H s v x) :
    (∀ r, v = .ptr r → ∃ ad, x = .pointer (some ad)) ∧ (∀ cs, v = .iptr cs → ∃ ad, x = .pointer (some ad)) ∧ (∀ f cs, v = .func f cs → ∃ ys, x = .func (.func f) #[] ys) ∧ (∀ ob, v = .map ob → ∃ r, x = .map (some r)) := by
  refine ⟨?_, ?_, ?_, ?_⟩
  · rintro r rfl
    obtain ⟨_, hR⟩ := rel_leaf hS rfl (fun g => by simp)
    cases r with
    | obj ob off => exact ⟨_, hR.1⟩
    | elem h g sz i off => obtain ⟨ad, h, _⟩ := hR; exact ⟨ad, h⟩
  · rintro cs rfl
    obtain ⟨_, hR⟩ := rel_leaf hS rfl (fun g => by simp)
    obtain ⟨ad, hp, _⟩ := hR; exact ⟨ad, hp⟩
  · rintro f cs rfl
    obtain ⟨_, hR⟩ := rel_leaf hS rfl (fun g => by simp)
    cases hR with
    | imm _ _ h => cases h
    | func _ _ xs hn h => exact ⟨xs, rfl⟩
  · rintro ob rfl
    obtain ⟨_, hR⟩ := rel_leaf hS rfl (fun g => by simp)
    exact ⟨_, hR.1⟩
theorem cellsRel_of {slots : List V} {objs : List (Option Obj)} {vals : List Value} {s : Nat} {cs : List V} {x : Value} (hS : SlotRel E slots objs vals H s (.agg cs) x) : ∃ xs, x = .agg xs ∧ CellsRel cs xs := by
  obtain ⟨⟨xs, rfl, hl⟩, h⟩ := hS
  refine ⟨xs, rfl, hl, fun i u y hu hy z hz => ?_⟩
  exact relV_toVal (h i u y hu (by simpa [vleaves] using hy)) hz
theorem eqin_ptr1 {t e : TypeId} (d : Nat) (b : Option Addr) (hu : under P t = some (.pointer e)) : (Op.equalIn (d + 1) t (.pointer none) (.pointer b)).run P w = .ok b.isNone w := by
  simp only [Op.equalIn, Sem.run_bind, run_under hu, Result.andThen_ok]; rfl
theorem eqin_ptr2 {t e : TypeId} (d : Nat) (ad : Addr) (hu : under P t = some (.pointer e)) : (Op.equalIn (d + 1) t (.pointer (some ad)) (.pointer none)).run P w = .ok false w := by
  simp only [Op.equalIn, Sem.run_bind, run_under hu, Result.andThen_ok]; rfl
theorem eqin_func0 {t : TypeId} {ps rs : Array TypeId} {vr : Bool} (d : Nat) (hu : under P t = some (.func ps rs vr)) : (Op.equalIn (d + 1) t .nilFunc .nilFunc).run P w = .ok true w := by
  simp only [Op.equalIn, Sem.run_bind, run_under hu, Result.andThen_ok]; rfl
theorem eqin_func1 {t : TypeId} {ps rs : Array TypeId} {vr : Bool} (d : Nat) (f : Fn) (a b : Array Value) (hu : under P t = some (.func ps rs vr)) : (Op.equalIn (d + 1) t .nilFunc (.func f a b)).run P w = .ok false w := by
  simp only [Op.equalIn, Sem.run_bind, run_under hu, Result.andThen_ok]; rfl
theorem eqin_func2 {t : TypeId} {ps rs : Array TypeId} {vr : Bool} (d : Nat) (f : Fn) (a b : Array Value) (hu : under P t = some (.func ps rs vr)) : (Op.equalIn (d + 1) t (.func f a b) .nilFunc).run P w = .ok false w := by
  simp only [Op.equalIn, Sem.run_bind, run_under hu, Result.andThen_ok]; rfl
theorem eqin_map1 {t k e : TypeId} (d : Nat) (b : Option Nat) (hu : under P t = some (.map k e)) : (Op.equalIn (d + 1) t (.map none) (.map b)).run P w = .ok b.isNone w := by
  simp only [Op.equalIn, Sem.run_bind, run_under hu, Result.andThen_ok]; rfl
theorem eqin_map2 {t k e : TypeId} (d r : Nat) (hu : under P t = some (.map k e)) : (Op.equalIn (d + 1) t (.map (some r)) (.map none)).run P w = .ok false w := by
  simp only [Op.equalIn, Sem.run_bind, run_under hu, Result.andThen_ok]; rfl
theorem eqV_run {t : TypeId} {k : EqK} {u v : V} {x y : Value} {r : Bool} {slots : List V} {objs : List (Option Obj)} {vals : List Value} {s s2 : Nat} (hk : eqKind P t = some k)
    (hS : SlotRel E slots objs vals H s u x) (hS2 : SlotRel E slots objs vals H s2 v y) (h : eqV k u v = some r) : EqRun P w t x y r := by
  have hun : ∃ d, under P t = some d := by
    unfold eqKind at hk
    cases hu : under P t with
    | none => rw [hu] at hk; cases hk
    | some d => exact ⟨d, rfl⟩
  obtain ⟨d, hu⟩ := hun
  have hu' : P.underlying t = some d := hu
  unfold eqKind at hk
  rw [hu] at hk
  unfold eqV at h
  split at h
  · -- numbers
    split at h
    · rename_i hkk; subst hkk; cases h
      rw [slot_toVal hS rfl, slot_toVal hS2 rfl]
      intro ox oy
      constructor <;> simp [eqGuard, Go.binOp, Op.intCmp] <;> rfl
    · cases h
  · cases h
    rw [slot_toVal hS rfl, slot_toVal hS2 rfl]
    intro ox oy
    constructor <;> simp [eqGuard, Go.binOp, Op.stringOp]
  · cases h
    rw [slot_toVal hS rfl, slot_toVal hS2 rfl]
    cases d <;> simp at hk
    exact .of_equal (run_equalIn_bool' w 9999 t _ _ hu') (.inl ⟨rfl, by simp⟩) fun op => ⟨fun e => by subst e; rfl, fun e => by subst e; rfl⟩
  · -- cells
    rename_i ks as bs
    have hd : P.eqGuardType P.depth t = false ∧ eqLay P 20 t = some ks := by
      cases d <;> simp at hk <;> exact ⟨hk.1, hk.2⟩
    obtain ⟨xs, rfl, hx⟩ := cellsRel_of hS
    obtain ⟨ys, rfl, hy⟩ := cellsRel_of hS2
    have ha : aggOf P t = some true := by
      simp only [aggOf, hu]
      cases d <;> simp at hk <;> rfl
    exact .of_equal (equalIn_run 20 10000 t ks as bs _ _ r (by omega) hd.2 (.inl ⟨ha, xs, rfl, hx⟩) (.inl ⟨ha, ys, rfl, hy⟩) h) (.inr ⟨⟨xs, ys, rfl, rfl⟩, hd.1⟩) fun op => ⟨fun e => by subst e; rfl, fun e => by subst e; rfl⟩
  all_goals (try (cases h; done))
  all_goals (cases h)
  all_goals (cases d <;> simp at hk)
  case h_5.refl.pointer =>
    rw [slot_toVal hS rfl, slot_toVal hS2 rfl]
    exact .of_equal (eqin_ptr1 9999 _ hu) (.inl ⟨rfl, by simp⟩) fun op => ⟨fun e => by subst e; rfl, fun e => by subst e; rfl⟩
  case h_6.refl.pointer =>
    obtain ⟨ad, e⟩ := (relE hS2).1 _ rfl
    rw [slot_toVal hS rfl, e]
    exact .of_equal (eqin_ptr1 9999 _ hu) (.inl ⟨rfl, by simp⟩) fun op => ⟨fun e => by subst e; rfl, fun e => by subst e; rfl⟩
  case h_7.refl.pointer =>
    obtain ⟨ad, e⟩ := (relE hS).1 _ rfl
    rw [slot_toVal hS2 rfl, e]
    exact .of_equal (eqin_ptr2 9999 _ hu) (.inl ⟨rfl, by simp⟩) fun op => ⟨fun e => by subst e; rfl, fun e => by subst e; rfl⟩
  case h_8.refl.pointer =>
    obtain ⟨ad, e⟩ := (relE hS2).2.1 _ rfl
    rw [slot_toVal hS rfl, e]
    exact .of_equal (eqin_ptr1 9999 _ hu) (.inl ⟨rfl, by simp⟩) fun op => ⟨fun e => by subst e; rfl, fun e => by subst e; rfl⟩
  case h_9.refl.pointer =>
    obtain ⟨ad, e⟩ := (relE hS).2.1 _ rfl
    rw [slot_toVal hS2 rfl, e]
    exact .of_equal (eqin_ptr2 9999 _ hu) (.inl ⟨rfl, by simp⟩) fun op => ⟨fun e => by subst e; rfl, fun e => by subst e; rfl⟩
  case h_10.refl.func =>
    rw [slot_toVal hS rfl, slot_toVal hS2 rfl]
    exact .of_equal (eqin_func0 9999 hu) (.inl ⟨rfl, by simp⟩) fun op => ⟨fun e => by subst e; rfl, fun e => by subst e; rfl⟩
  case h_11.refl.func =>
    obtain ⟨ys, e⟩ := (relE hS2).2.2.1 _ _ rfl
    rw [slot_toVal hS rfl, e]
    exact .of_equal (eqin_func1 9999 _ _ _ hu) (.inl ⟨rfl, by simp⟩) fun op => ⟨fun e => by subst e; rfl, fun e => by subst e; rfl⟩
  case h_12.refl.func =>
    obtain ⟨ys, e⟩ := (relE hS).2.2.1 _ _ rfl
    rw [slot_toVal hS2 rfl, e]
    exact .of_equal (eqin_func2 9999 _ _ _ hu) (.inl ⟨rfl, by simp⟩) fun op => ⟨fun e => by subst e; rfl, fun e => by subst e; rfl⟩
  case h_13.refl.map =>
    rw [slot_toVal hS rfl, slot_toVal hS2 rfl]
    exact .of_equal (eqin_map1 9999 _ hu) (.inl ⟨rfl, by simp⟩) fun op => ⟨fun e => by subst e; rfl, fun e => by subst e; rfl⟩
  case h_14.refl.map =>
    obtain ⟨r, e⟩ := (relE hS2).2.2.2 _ rfl
    rw [slot_toVal hS rfl, e]
    exact .of_equal (eqin_map1 9999 _ hu) (.inl ⟨rfl, by simp⟩) fun op => ⟨fun e => by subst e; rfl, fun e => by subst e; rfl⟩
  case h_15.refl.map =>
    obtain ⟨r, e⟩ := (relE hS).2.2.2 _ rfl
    rw [slot_toVal hS2 rfl, e]
    exact .of_equal (eqin_map2 9999 _ hu) (.inl ⟨rfl, by simp⟩) fun op => ⟨fun e => by subst e; rfl, fun e => by subst e; rfl⟩
theorem CoreS.objAt (hC : CoreS n E σ hs ts xs H) {ob : Nat} {cs : List V} (ho : σ.obj ob = some (.cells cs)) : ∃ arr T f, H[E.addr ob]? = some (.cells arr T f) ∧ E.tag (E.addr ob) = .obj ob ∧ arr.size = cs.length ∧ open_ f arr.size ∧
    (∀ (i : Nat) (u : V) (y : Value), cs[i]? = some u → arr[i]? = some y → RelV E (σ.slots ++ hs) σ.objs (ts ++ xs) H (.obj ob i) u y) ∧ ∀ u ∈ cs, u.inObj = true := by
  have h1 : σ.objs[ob]? = some (some (.cells cs)) := by
    simp only [St.obj, List.getD] at ho
    cases h : σ.objs[ob]? with
    | none => simp [h] at ho
    | some y => simp [h] at ho; rw [ho]
  exact hC.core.obj ob cs h1
theorem gCells_sound {r : Ref} {m : Nat} {k : List V → Prog} {ad : Addr} {h0 : Home} (hC : CoreS n E σ hs ts xs H) (hx : RelV E (σ.slots ++ hs) σ.objs (ts ++ xs) H h0 (.ptr r) (.pointer (some ad))) (hr : (gCells r m k).run σ = some σ') :
    ∃ cs, (k cs).run σ = some σ' ∧ cs.length = m ∧ ∀ (j : Nat) (u : V), cs[j]? = some u → ∃ y, cellAt H ad.block (ad.off + j) = some y ∧ (∀ h, RelV E (σ.slots ++ hs) σ.objs (ts ++ xs) H h u y) ∧ u.own = false ∧ u.leaf = true ∧
      (∀ r ∈ u.refs1, (∀ t i, r.1 = .slot t i → t < n) ∧ ∃ w, ct (σ.slots ++ hs) σ.objs r.1 = some w ∧ r.2 < w.nextg) := by
  cases r with
  | obj ob off =>
    simp only [gCells, Prog.run] at hr
    split at hr
    · rename_i cs ho
      rw [Prog.run_ite] at hr
      split at hr
      · rename_i hle
        obtain ⟨arr, T, f, h1, h2, h3, h4, h5, h6⟩ := hC.objAt ho
        refine ⟨_, hr, by rw [borrows_len, List.length_take, List.length_drop]; omega, fun j u hu => ?_⟩
        rw [borrows_get] at hu
        obtain ⟨z, hz, rfl⟩ := Option.map_eq_some_iff.1 hu
        obtain ⟨hz1, hz2⟩ := mem_sub hz
        have hlt := lt_of_getElem? hz1
        have hy : arr[off + j]? = some arr[off + j] := by simp;
        have hR := h5 (off + j) z arr[off + j] hz1 hy
        have hcell : cellAt H (E.addr ob) (off + j) = some arr[off + j] := by simp only [cellAt, h1]; exact hy
        simp only [RelV, Value.pointer.injEq, Option.some.injEq] at hx
        obtain ⟨hx, hal⟩ := hx
        subst hx
        refine ⟨arr[off + j], hcell, fun h => ?_, borrow1_own _ _, borrow1_leaf hR.leaf, fun r hr => ?_⟩
        · rw [Nat.zero_add]; exact borrow1_rel hR hcell
        · rcases borrow1_refs _ _ r hr with h | ⟨h, h'⟩
          · rw [V.inObj_refs1 (h6 z (List.mem_of_getElem? hz1))] at h; cases h
          · refine ⟨fun t i e => (by rw [h] at e; cases e), z, ?_, h'⟩
            rw [h]
            have h7 : σ.objs[ob]? = some (some (.cells cs)) := by
              simp only [St.obj, List.getD] at ho
              cases h : σ.objs[ob]? with
              | none => simp [h] at ho
              | some y => simp [h] at ho; rw [ho]
            simp only [ct, h7, Nat.zero_add]; exact hz1
      · cases hr
    · cases hr
  | elem h g sz i off =>
    simp only [gCells] at hr
    replace hr := gElems_run hr
    obtain ⟨u, own, es, hc, hk, hr⟩ := hr
    have hk' : u = .xsl g sz es ∨ u = .isl g sz es ∨ u = .fsl g sz es := by rcases hk with ⟨h, _⟩ | ⟨h | h, _⟩ <;> simp [h]
    have hg : ∀ g', u ≠ .gone g' := by rintro g' rfl; rcases hk' with h | h | h <;> cases h
    obtain ⟨d4, d5⟩ := ct_real' (n := n) (hs := hs) hC.sl hc hg
    obtain ⟨y', a, cap, f1, f2, _, _, _⟩ := hC.core.homeView d4 hk'
    have hvl : valid (σ.slots ++ hs) σ.objs h g sz := ⟨_, d4, by rcases hk' with h | h | h <;> (rw [h]; rfl)⟩
    obtain ⟨ad', e1, hx⟩ := hx
    cases e1
    obtain ⟨ad0, l, c, e2, e3⟩ := hx hvl
    rw [f1] at e2; cases e2
    have e4 := f2.eq
    injection e4 with e4 _ _
    subst e4
    split at hr
    · rename_i e he
      rw [Prog.run_ite] at hr
      split at hr
      · rename_i hle
        refine ⟨_, hr, by rw [List.length_take, List.length_drop]; omega, fun j u hu => ?_⟩
        obtain ⟨hz1, hz2⟩ := mem_sub hu
        obtain ⟨ad1, y, g1, g2, g3⟩ := f2.elems.2 i e (off + j) u he hz1
        cases g1
        have hlf := (f2.elems.1 e (List.mem_of_getElem? he)).2 u (List.mem_of_getElem? hz1)
        refine ⟨y, ?_, fun h => ?_, ?_, hlf, ?_⟩
        · rw [e3]; simp only; rw [← g2]; congr 1; omega
        · cases g3 <;> first | exact RelI.bool _ | exact RelI.int _ _ | exact RelI.str _ | exact RelI.nil | exact RelI.nilf | exact RelI.nilm | exact RelI.nili | exact RelI.nilS _ | exact RelI.iface _ _ _ ‹_› ‹_› | exact RelI.isl _ _ _ _ _ _ ‹_› ‹_› ‹_› ‹_› ‹_› ‹_› | (simp [V.leaf] at hlf)
        · cases g3 <;> rfl
        · intro r hr; cases g3 <;> cases hr
      · cases hr
    · cases hr
theorem gView_sound {v : V} {x : Value} {k : Nat → List V → Prog} {h0 : Home} (hC : CoreS n E σ hs ts xs H) (hR : RelV E (σ.slots ++ hs) σ.objs (ts ++ xs) H h0 v x) (hr : (gView v k).run σ = some σ') :
    ∃ sz es a cap, (k sz es).run σ = some σ' ∧ View E.imm H sz es x a cap := by
  cases v with
  | isl g sz es => obtain ⟨a, cap, hw, _⟩ := View.of_isl hR; exact ⟨sz, es, a, cap, hr, hw⟩
  | xsl g sz es => obtain ⟨a, cap, e1, e2, e3, e4, e5, e6⟩ := hR; exact ⟨sz, es, a, cap, hr, ⟨e1, e2, e3, e4, e6⟩⟩
  | fsl g sz es => obtain ⟨a, cap, e1, e2, e3, e4, e5, e6⟩ := hR; exact ⟨sz, es, a, cap, hr, ⟨e1, e2, e3, e4, e6⟩⟩
  | csl sz es => obtain ⟨a, cap, hw, _⟩ := View.of_isl hR.1; exact ⟨sz, es, a, cap, hr, hw⟩
  | nilS sz => have := relV_toVal hR rfl; subst this; exact ⟨sz, [], none, 0, hr, View.of_nil sz⟩
  | srf h g sz off len =>
    simp only [gView] at hr
    replace hr := gElems_run hr
    obtain ⟨u, own, es, hc, hk, hr⟩ := hr
    rw [Prog.run_ite] at hr
    split at hr
    · rename_i hle
      have hk' : u = .xsl g sz es ∨ u = .isl g sz es ∨ u = .fsl g sz es := by rcases hk with ⟨h, _⟩ | ⟨h | h, _⟩ <;> simp [h]
      have hg : ∀ g', u ≠ .gone g' := by rintro g' rfl; rcases hk' with h | h | h <;> cases h
      obtain ⟨d4, d5⟩ := ct_real' (n := n) (hs := hs) hC.sl hc hg
      obtain ⟨y', a, cap, f1, f2, _, _, _⟩ := hC.core.homeView d4 hk'
      have hvl : valid (σ.slots ++ hs) σ.objs h g sz := ⟨_, d4, by rcases hk' with h | h | h <;> (rw [h]; rfl)⟩
      obtain ⟨a', cap', g1, _⟩ := View.of_srf hR hvl f1 f2 hle
      exact ⟨sz, _, a', cap', hr, g1⟩
    · cases hr
  | asl r len =>
    simp only [gView] at hr
    have hx : ∃ (ad : Addr) (c : Nat), x = .slice (some ad) len c ∧ len ≤ c ∧ RelV E (σ.slots ++ hs) σ.objs (ts ++ xs) H h0 (.ptr r) (.pointer (some ad)) ∧ ad.spot = none := by
      cases r with
      | obj ob off => obtain ⟨c, e1, e2, e3⟩ := hR; exact ⟨_, c, e1, e2, ⟨rfl, e3⟩, rfl⟩
      | elem h g sz i off => obtain ⟨ad, c, e1, e2, es, e3⟩ := hR; exact ⟨ad, c, e1, e2, ⟨ad, rfl, e3⟩, es⟩
    obtain ⟨ad, c, e1, e2, e3, e4⟩ := hx
    obtain ⟨cs, hr2, hl, hcs⟩ := gCells_sound hC e3 hr
    rw [Prog.run_ite] at hr2
    split at hr2
    · rename_i hp
      have hsp := e4
      refine ⟨1, cs, some ad, c, hr2, ⟨by rw [hl]; exact e1, by rw [hl]; exact e2, fun h => (by cases h), fun ad' h _ => (by cases h; exact hsp), ⟨fun e he => ?_, fun i e j v hi hj => ?_⟩⟩⟩
      · have := plain_leaf (List.all_eq_true.1 hp e he)
        rw [elemOk, cells_leaf this.1]; simp [this.1]
      · have hpl := List.all_eq_true.1 hp e (List.mem_of_getElem? hi)
        rw [cells_leaf (plain_leaf hpl).1] at hj
        cases j with
        | zero =>
          simp at hj; subst hj
          obtain ⟨y, y1, y2, _⟩ := hcs i e hi
          exact ⟨ad, y, rfl, by rw [← y1]; congr 1; omega, (relV_plain hpl).1 (y2 h0)⟩
        | succ j => simp at hj
    · cases hr2
  | _ => cases hr
theorem op_eq {neg : Bool} {k : EqK} {t t' : TypeId} {x y : Operand} {x' y' : Opd} (ho : o.op = .binOp (if neg then .neq else .eql) t x y t') (hk : eqKind P t = some k) (hx : opd P t x = some x') (hy : opd P t y = some y') (hC : CoreS n E σ [] a.tmps.toList [] w.heap)
    (hr : (opProg callee base o.dst (.eq neg k x' y')).run σ = some σ') (K : NextOk n base E σ' a w next) : o.upon P a next Q ((execOp a.eval o).run P w) := by
  have hex : ∀ r, EqRun P w t (a.eval x) (a.eval y) r → (execOp a.eval o).run P w = .ok (.value (.bool (if neg then !r else r))) w := by
    intro r h
    obtain ⟨h1, h2⟩ := h x y
    cases neg
    · simp only [execOp, ho, Bool.false_eq_true, if_false]
      simp only [Sem.run_bind, h1, Result.andThen_ok, Sem.run_pure]
    · simp only [execOp, ho, if_true]
      simp only [Sem.run_bind, h2, Result.andThen_ok, Sem.run_pure]
  by_cases hks : k = .slice
  · subst hks
    have hr' : (gOpd x' fun a => gOpd y' fun
      | .nilS _ => gView a fun _ es => (match es with | _ :: _ => putO o.dst (.bool neg) .ret | [] => .fail)
      | _ => .fail).run σ = some σ' := hr
    obtain ⟨u, hr1, ⟨s, hS, _⟩, _⟩ := opd_rel (v := .nil) hC (opd_ok a hx) hr'
    obtain ⟨v, hr2, ⟨s2, hS2, _⟩, _⟩ := opd_rel (v := .nil) hC (opd_ok a hy) hr1
    obtain ⟨hp, hk2⟩ : (∃ z, v = .nilS z) ∧ True := by cases v <;> first | exact ⟨⟨_, rfl⟩, trivial⟩ | cases hr2
    obtain ⟨z, rfl⟩ := hp
    have hey := slot_toVal hS2 rfl
    have hul : u.leaf = true ∧ (∀ g, u ≠ .gone g) := by
      constructor
      · cases u <;> first | rfl | cases hr2
      · rintro g rfl; cases hr2
    obtain ⟨hlx, hR⟩ := rel_leaf hS hul.1 hul.2
    obtain ⟨sz, es, a', cap, hr3, hw⟩ := gView_sound hC hR hr2
    split at hr3
    · rename_i e es'
      have hne : ∃ ad, a' = some ad := by
        cases ha : a' with
        | some ad => exact ⟨ad, rfl⟩
        | none => have := hw.nil ha; have := hw.le; simp at this; omega
      obtain ⟨ad, rfl⟩ := hne
      have hun : ∃ e, under P t = some (.slice e) := by
        unfold eqKind at hk
        cases hu : under P t with
        | none => rw [hu] at hk; cases hk
        | some d => rw [hu] at hk; cases d <;> simp at hk; exact ⟨_, rfl⟩
      obtain ⟨et, hu⟩ := hun
      have hx2 := hw.eq
      refine plain_end hC rfl hr3 K ?_
      have := hex false (.of_equal (by rw [hx2, hey]; exact run_equal_slice_nil w t et _ _ _ hu) (.inl ⟨hlx, by rw [hx2]; simp⟩) fun op => ⟨fun e => by subst e; rw [hx2, hey]; rfl, fun e => by subst e; rw [hx2, hey]; rfl⟩)
      rw [this]; cases neg <;> rfl
    · cases hr3
  · have hr' : (gOpd x' fun a => gOpd y' fun b => optV ((eqV k a b).map fun r => .bool (if neg then !r else r)) fun v => putO o.dst v .ret).run σ = some σ' := by
      cases k <;> first | exact hr | exact absurd rfl hks
    obtain ⟨u, hr1, ⟨s, hS, _⟩, _⟩ := opd_rel (v := .nil) hC (opd_ok a hx) hr'
    obtain ⟨v, hr2, ⟨s2, hS2, _⟩, _⟩ := opd_rel (v := .nil) hC (opd_ok a hy) hr1
    obtain ⟨r, hb, hr3⟩ := optV_run hr2
    obtain ⟨q, hq, rfl⟩ := Option.map_eq_some_iff.1 hb
    exact plain_end hC rfl hr3 K (hex q (eqV_run hk hS hS2 hq))
end
end Go.Vq
namespace Go.Vq
section
variable {P : Program} {n base : Nat} {E E' : Env} {σ σ' : St} {hs : List V} {ts xs : List Value} {H H' : Array Go.Obj}
variable {callee : Callee} {o : Oper} {a : Act} {w : World} {next : Act → World → Prop} {Q : Exit → Act → World → Prop}
theorem relI_leafX {imm : Nat → Nat → Prop} {v : V} {x : Value} (h : RelI imm H v x) (hl : v.leaf = true) : leafX x = true := by
  cases h <;> first | rfl | simp [V.leaf] at hl
theorem relC_leafX {v : V} {x : Value} {objs : List (Option Obj)} (h : RelC E objs H v x) (hl : v.leaf = true) : leafX x = true := by
  cases h with
  | imm _ _ h _ => exact relI_leafX h hl
  | _ => rfl
theorem relV_leafX {slots : List V} {objs : List (Option Obj)} {vals : List Value} {h : Home} {v : V} {x : Value} (hR : RelV E slots objs vals H h v x) (hg : ∀ g, v ≠ .gone g) : leafX x = true := by
  cases v with
  | gone g => exact absurd rfl (hg g)
  | agg _ => cases hR
  | tup _ => cases hR
  | xsl => obtain ⟨a, c, e, _⟩ := hR; subst e; rfl
  | fsl => obtain ⟨a, c, e, _⟩ := hR; subst e; rfl
  | csl => obtain ⟨_, a, e⟩ := hR; subst e; rfl
  | srf => obtain ⟨a, c, e, _⟩ := hR; subst e; rfl
  | iptr => obtain ⟨a, e, _⟩ := hR; subst e; rfl
  | func => exact relC_leafX hR rfl
  | map => obtain ⟨e, _⟩ := hR; subst e; rfl
  | ptr r => cases r with
    | obj => obtain ⟨e, _⟩ := hR; subst e; rfl
    | elem => obtain ⟨a, e, _⟩ := hR; subst e; rfl
  | asl r => cases r with
    | obj => obtain ⟨a, e, _⟩ := hR; subst e; rfl
    | elem => obtain ⟨a, c, e, _⟩ := hR; subst e; rfl
  | _ => exact relI_leafX hR rfl
def RefsOk (n : Nat) (slots : List V) (objs : List (Option Obj)) (l : List (Home × Nat)) : Prop :=
  ∀ r ∈ l, (∀ t i, r.1 = .slot t i → t < n) ∧ ∃ u, ct slots objs r.1 = some u ∧ r.2 < u.nextg
theorem CoreS.pushLeaf (hC : CoreS n E σ hs ts xs H) {h : Home} {v : V} {x : Value} (hl : v.leaf = true) (ho : v.own = false) (hR : RelV E (σ.slots ++ hs) σ.objs (ts ++ xs) H h v x)
    (hf : RefsOk n (σ.slots ++ hs) σ.objs v.refs1) : CoreS n E σ (hs ++ [v]) ts (xs ++ [x]) H := by
  refine hC.push (by rw [leaves_leaf hl]; simp [ho]) ⟨?_, fun i u y hu hy => ?_⟩ (by rw [V.refs, leaves_leaf hl]; simp only [List.flatMap_cons, List.flatMap_nil, List.append_nil]; exact hf)
  · by_cases hg : ∃ g, v = .gone g
    · obtain ⟨g, rfl⟩ := hg; trivial
    · exact shape_leaf hl (relV_leafX hR fun g e => hg ⟨g, e⟩)
  · by_cases hg : ∃ g, v = .gone g
    · obtain ⟨g, rfl⟩ := hg
      cases i with
      | zero => simp [V.leaves] at hu; subst hu; trivial
      | succ i => simp [V.leaves] at hu
    · have hx := relV_leafX hR fun g e => hg ⟨g, e⟩
      rw [leaves_leaf hl] at hu; rw [vleaves_leaf hx] at hy
      cases i with
      | zero =>
        simp at hu hy; subst hu hy
        exact hR.move (fun _ _ h => ⟨h, rfl⟩) (fun h => by rw [ho] at h; cases h) (fun h => by rw [ho] at h; cases h) (fun _ _ h => ⟨rfl, h⟩) (fun _ _ _ _ h => ⟨rfl, h⟩) fun _ _ _ h => ⟨h, rfl⟩
      | succ i => simp at hu
theorem CoreS.pushCells (hC : CoreS n E σ hs ts xs H) {cs : List V} {ys : List Value} (hl : cs.length = ys.length)
    (hcs : ∀ (j : Nat) (u : V) (y : Value), cs[j]? = some u → ys[j]? = some y → (∃ h, RelV E (σ.slots ++ hs) σ.objs (ts ++ xs) H h u y) ∧ u.own = false ∧ u.leaf = true ∧ RefsOk n (σ.slots ++ hs) σ.objs u.refs1)
    {agg : Bool} {v : V} (hv : ofCells agg cs = some v) : CoreS n E σ (hs ++ [v]) ts (xs ++ [if agg then .agg ys.toArray else ys.headD undef]) H ∧ (agg = false → cs.length = 1) := by
  cases agg with
  | true =>
    simp only [ofCells, if_true, Option.some.injEq] at hv
    subst hv
    refine ⟨hC.push ?_ ⟨⟨ys.toArray, rfl, by simpa using hl⟩, fun i u y hu hy => ?_⟩ ?_, fun h => (by cases h)⟩
    · intro u hu
      obtain ⟨i, hi, rfl⟩ := List.getElem_of_mem hu
      exact (hcs i _ _ (List.getElem?_eq_getElem hi) (List.getElem?_eq_getElem (hl ▸ hi))).2.1
    · obtain ⟨⟨h, hR⟩, ho, _⟩ := hcs i u y hu (by simpa [vleaves] using hy)
      exact hR.move (fun _ _ h => ⟨h, rfl⟩) (fun h => by rw [ho] at h; cases h) (fun h => by rw [ho] at h; cases h) (fun _ _ h => ⟨rfl, h⟩) (fun _ _ _ _ h => ⟨rfl, h⟩) fun _ _ _ h => ⟨h, rfl⟩
    · intro r hr
      simp only [V.refs, V.leaves, List.mem_flatMap] at hr
      obtain ⟨u, hu, hr⟩ := hr
      obtain ⟨i, hi, rfl⟩ := List.getElem_of_mem hu
      exact (hcs i _ _ (List.getElem?_eq_getElem hi) (List.getElem?_eq_getElem (hl ▸ hi))).2.2.2 r hr
  | false =>
    simp only [ofCells, Bool.false_eq_true, if_false] at hv
    split at hv
    · cases hv
      cases ys with
      | nil => simp at hl
      | cons y ys =>
        obtain ⟨⟨h, hR⟩, ho, hlf, hf⟩ := hcs 0 _ y rfl rfl
        exact ⟨hC.pushLeaf hlf ho hR hf, fun _ => rfl⟩
    · cases hv
theorem op_indexStr {t : TypeId} {x i : Operand} {x' i' : Opd} (ho : o.op = .index t x i) (ht : under P t = some .string) (hx : opd0 x = some x') (hi : opd0 i = some i') (hC : CoreS n E σ [] a.tmps.toList [] w.heap)
    (hr : (opProg callee base o.dst (.indexStr x' i')).run σ = some σ') (K : NextOk n base E σ' a w next) : o.upon P a next Q ((execOp a.eval o).run P w) := by
  obtain ⟨kk, m, hm, hr⟩ := gInt_sound hC (opd0_ok a hi) hr
  obtain ⟨u, hr, ⟨s, hS, hs'⟩, hrest⟩ := opd_rel (v := .nil) hC (opd0_ok a hx) hr
  clear hrest hs'
  split at hr
  · rename_i l
    have e := slot_toVal (y := .string ⟨l.toArray⟩) hS rfl
    rw [Prog.run_ite] at hr
    split at hr
    · rename_i h0
      split at hr
      · rename_i b hb
        refine plain_end hC (y := .int .u8 b.toNat) rfl hr K ?_
        have hb' : (⟨l.toArray⟩ : ByteArray)[m.toNat]? = some b := by
          have hlt := lt_of_getElem? hb
          rw [List.getElem?_eq_getElem hlt] at hb
          cases hb
          rw [getElem?_pos (⟨l.toArray⟩ : ByteArray) m.toNat (by simpa [ByteArray.size] using hlt)]
          simp [ByteArray.getElem_eq_getElem_data]
        simp [execOp, ho, e, hm, Instr.index, asIntOf, run_under ht, h0, hb']
      · cases hr
    · cases hr
  · cases hr
theorem op_iface {t : TypeId} {x : Operand} {x' : Opd} (ho : o.op = .makeInterface t x) (ht : ∃ d, under P t = some d ∧ ∀ ms, d ≠ .interface ms) (hx : opd P t x = some x') (hC : CoreS n E σ [] a.tmps.toList [] w.heap)
    (hr : (opProg callee base o.dst (.iface t x')).run σ = some σ') (K : NextOk n base E σ' a w next) : o.upon P a next Q ((execOp a.eval o).run P w) := by
  obtain ⟨u, hr, ⟨s, hS, _⟩, _⟩ := opd_rel (v := .nil) hC (opd_ok a hx) hr
  rw [Prog.run_ite] at hr
  split at hr
  · rename_i hp
    obtain ⟨y, hy⟩ := plain_toVal hp
    have e := slot_toVal hS hy
    obtain ⟨d, hd, hd'⟩ := ht
    refine value_end (hC.pushLeaf (h := .slot 0 0) (v := .iface t u) (x := .iface t y) rfl rfl (RelI.iface _ _ _ hp (toVal_rel hy _ _)) (by intro r hr; cases hr)) (Grow.refl _ _ _) (WSame.refl _) hr K ?_
    simp only [execOp, ho, e, Instr.makeInterface]
    cases d <;> first | exact absurd rfl (hd' _) | simp [run_under hd]
  · cases hr
end
end Go.Vq
namespace Go.Vq
section
variable {P : Program} {n base : Nat} {E E' : Env} {σ σ' : St} {hs : List V} {ts xs : List Value} {H H' : Array Go.Obj}
variable {callee : Callee} {o : Oper} {a : Act} {w : World} {next : Act → World → Prop} {Q : Exit → Act → World → Prop}
theorem relI_rel {u : V} {y : Value} (h : RelI E.imm H u y) (hl : u.leaf = true) : (∀ (slots : List V) (objs : List (Option Obj)) (vals : List Value) (h : Home), RelV E slots objs vals H h u y) ∧ u.own = false ∧ u.refs1 = [] := by
  refine ⟨fun slots objs vals h' => ?_, ?_, ?_⟩
  · cases h <;> first | exact RelI.bool _ | exact RelI.int _ _ | exact RelI.str _ | exact RelI.nil | exact RelI.nilf | exact RelI.nilm | exact RelI.nili | exact RelI.nilS _ | exact RelI.iface _ _ _ ‹_› ‹_› | exact RelI.isl _ _ _ _ _ _ ‹_› ‹_› ‹_› ‹_› ‹_› ‹_› | (simp [V.leaf] at hl)
  · cases h <;> rfl
  · cases h <;> rfl
theorem add_spot {ad : Addr} (h : ad.spot = none) (m : Nat) : ad.add m = ⟨ad.block, ad.off + m, none⟩ := by
  unfold Addr.add
  split
  · cases ad; simp_all
  · rfl
theorem cell_at {ad : Addr} (h : ad.spot = none) (m : Nat) : w.cell? (ad.add m) = cellAt w.heap ad.block (ad.off + m) := by
  rw [add_spot h, World.cell?, cellAt]
  cases w.heap[ad.block]? with
  | none => rfl
  | some ob => cases ob <;> rfl
theorem gCells_spot {r : Ref} {m : Nat} {k : List V → Prog} {ad : Addr} {h0 : Home} (hC : CoreS n E σ hs ts xs H) (hx : RelV E (σ.slots ++ hs) σ.objs (ts ++ xs) H h0 (.ptr r) (.pointer (some ad))) (hr : (gCells r m k).run σ = some σ') : ad.spot = none := by
  cases r with
  | obj ob off => simp only [RelV, Value.pointer.injEq, Option.some.injEq] at hx; rw [hx.1]
  | elem h g sz i off =>
    simp only [gCells] at hr
    replace hr := gElems_run hr
    obtain ⟨u, own, es, hc, hk, hr⟩ := hr
    have hk' : u = .xsl g sz es ∨ u = .isl g sz es ∨ u = .fsl g sz es := by rcases hk with ⟨h, _⟩ | ⟨h | h, _⟩ <;> simp [h]
    have hg : ∀ g', u ≠ .gone g' := by rintro g' rfl; rcases hk' with h | h | h <;> cases h
    obtain ⟨d4, d5⟩ := ct_real' (n := n) (hs := hs) hC.sl hc hg
    have hvl : valid (σ.slots ++ hs) σ.objs h g sz := ⟨_, d4, by rcases hk' with h | h | h <;> (rw [h]; rfl)⟩
    obtain ⟨ad', e1, hx⟩ := hx
    cases e1
    obtain ⟨ad0, l, c, e2, e3⟩ := hx hvl
    rw [e3]
def cellsAt (H : Array Go.Obj) (ad : Addr) (m : Nat) : List Value := (List.range m).map fun j => (cellAt H ad.block (ad.off + j)).getD undef
theorem cellsAt_len (H : Array Go.Obj) (ad : Addr) (m : Nat) : (cellsAt H ad m).length = m := by simp [cellsAt]
theorem cellsAt_get {ad : Addr} {m j : Nat} {y : Value} (hj : j < m) (h : cellAt H ad.block (ad.off + j) = some y) : (cellsAt H ad m)[j]? = some y := by simp [cellsAt, hj, h]
theorem loadVar_run {t : TypeId} {agg : Bool} {m : Nat} {ad : Addr} (ha : aggOf P t = some agg) (hs : szOf P t = some m) (hsp : ad.spot = none) (hc : ∀ j, j < m → ∃ y, cellAt w.heap ad.block (ad.off + j) = some y) (h1 : agg = false → m = 1) :
    (loadVar t ad).run P w = .ok (if agg then .agg (cellsAt w.heap ad m).toArray else (cellsAt w.heap ad m).headD undef) w := by
  have hcell : ∀ j v, (cellsAt w.heap ad m)[j]? = some v → w.cell? (ad.add j) = some v := by
    intro j v hv
    have hj : j < m := by have := lt_of_getElem? hv; rwa [cellsAt_len] at this
    obtain ⟨y, hy⟩ := hc j hj
    rw [cellsAt_get hj hy] at hv; cases hv
    rw [cell_at hsp, hy]
  unfold loadVar
  simp only [Sem.run_bind, run_aggOf ha, Result.andThen_ok]
  cases agg with
  | true =>
    have := run_loadCells_list (P := P) w ad (cellsAt w.heap ad m) hcell
    rw [cellsAt_len] at this
    simp [run_size hs, this]
  | false =>
    have := h1 rfl
    subst this
    obtain ⟨y, hy⟩ := hc 0 (by omega)
    have h0 := hcell 0 y (cellsAt_get (by omega) hy)
    simp only [Addr.add, if_true] at h0
    have h2 : (cellsAt w.heap ad 1).headD undef = y := by simp [cellsAt]; simpa using congrArg (·.getD undef) hy
    simp only [Bool.false_eq_true, if_false, h2, run_load, h0]
theorem op_load {t : TypeId} {p : Operand} {p' : Opd} {agg : Bool} {m : Nat} (ho : o.op = .load t p) (ha : aggOf P t = some agg) (hs : szOf P t = some m) (hp : opd0 p = some p') (hC : CoreS n E σ [] a.tmps.toList [] w.heap)
    (hr : (opProg callee base o.dst (.load agg m p')).run σ = some σ') (K : NextOk n base E σ' a w next) : o.upon P a next Q ((execOp a.eval o).run P w) := by
  obtain ⟨u, hr, ⟨s, hS, hs'⟩, hrest⟩ := opd_rel (v := .nil) hC (opd0_ok a hp) hr
  clear hrest hs'
  split at hr
  · rename_i r
    obtain ⟨_, hR⟩ := rel_leaf hS rfl (fun g => by simp)
    obtain ⟨ad, hx⟩ := (relE hS).1 r rfl
    rw [hx] at hR
    have hsp := gCells_spot hC hR hr
    obtain ⟨cs, hr2, hl, hcs⟩ := gCells_sound hC hR hr
    obtain ⟨v, hv, hr3⟩ := optV_run hr2
    have hlen : cs.length = (cellsAt w.heap ad m).length := by rw [hl, cellsAt_len]
    obtain ⟨hC2, h1⟩ := hC.pushCells (ys := cellsAt w.heap ad m) hlen (fun j z y hz hy => by
      obtain ⟨y', e1, e2, e3, e4, e5⟩ := hcs j z hz
      rw [cellsAt_get (by rw [← hl]; exact lt_of_getElem? hz) e1] at hy; cases hy
      exact ⟨⟨.slot 0 0, e2 _⟩, e3, e4, e5⟩) hv
    refine value_end hC2 (Grow.refl _ _ _) (WSame.refl _) hr3 K ?_
    have := loadVar_run (w := w) ha hs hsp (fun j hj => by
      obtain ⟨y', e1, _⟩ := hcs j cs[j] (List.getElem?_eq_getElem (by omega))
      exact ⟨y', e1⟩) (fun h => by rw [← hl]; exact h1 h)
    simp [execOp, ho, hx, Instr.loadAt, Instr.sureAddr, this]
  · rename_i cs
    obtain ⟨_, hR⟩ := rel_leaf hS rfl (fun g => by simp)
    obtain ⟨ad, hx, hsp, hcs⟩ := hR
    rw [Prog.run_ite] at hr
    split at hr
    · rename_i hle
      obtain ⟨v, hv, hr3⟩ := optV_run hr
      have hget : ∀ (j : Nat) (z : V), (cs.take m)[j]? = some z → j < m ∧ cs[j]? = some z := by
        intro j z hz
        have hj := lt_of_getElem? hz
        simp only [List.length_take] at hj
        rw [List.getElem?_take_of_lt (by omega)] at hz
        exact ⟨by omega, hz⟩
      have hlen : (cs.take m).length = (cellsAt w.heap ad m).length := by rw [cellsAt_len, List.length_take]; omega
      obtain ⟨hC2, h1⟩ := hC.pushCells (ys := cellsAt w.heap ad m) hlen (fun j z y hz hy => by
        obtain ⟨hj, hz'⟩ := hget j z hz
        obtain ⟨hlf, y', _, e1, e2⟩ := hcs j z hz'
        rw [cellsAt_get hj e1] at hy; cases hy
        obtain ⟨r1, r2, r3⟩ := relI_rel (E := E) e2 hlf
        exact ⟨⟨.slot 0 0, r1 _ _ _ _⟩, r2, hlf, by rw [r3]; intro r hr; cases hr⟩) hv
      refine value_end hC2 (Grow.refl _ _ _) (WSame.refl _) hr3 K ?_
      have := loadVar_run (w := w) ha hs hsp (fun j hj => by
        obtain ⟨_, y', _, e1, _⟩ := hcs j cs[j] (List.getElem?_eq_getElem (by omega))
        exact ⟨y', e1⟩) (fun h => by have := h1 h; rw [hlen, cellsAt_len] at this; exact this)
      simp [execOp, ho, hx, Instr.loadAt, Instr.sureAddr, this]
    · cases hr
  · cases hr
theorem ptrOff_rel {slots : List V} {objs : List (Option Obj)} {vals : List Value} {h : Home} {v v' : V} {x : Value} {off : Nat} (hR : RelV E slots objs vals H h v x) (hv : ptrOff off v = some v') :
    ∃ ad, x = .pointer (some ad) ∧ RelV E slots objs vals H h v' (.pointer (some (ad.add off))) ∧ v'.refs1 = v.refs1 ∧ v'.leaf = true ∧ v'.own = false := by
  unfold ptrOff at hv
  split at hv
  · cases hv; obtain ⟨e, hal⟩ := hR; subst e
    exact ⟨_, rfl, by simp only [RelV]; rw [add_spot rfl]; exact ⟨rfl, hal⟩, rfl, rfl, rfl⟩
  · rename_i hh g sz i b
    cases hv
    obtain ⟨ad, e, hR⟩ := hR
    subst e
    refine ⟨ad, rfl, ⟨_, rfl, fun hvl => ?_⟩, rfl, rfl, rfl⟩
    obtain ⟨ad0, l, c, e1, e2⟩ := hR hvl
    refine ⟨ad0, l, c, e1, ?_⟩
    subst e2
    rw [add_spot rfl]; simp [Nat.add_assoc]
  · rename_i cs
    cases hv
    obtain ⟨ad, e, hsp, hR⟩ := hR
    subst e
    refine ⟨ad, rfl, ⟨_, rfl, by rw [add_spot hsp], fun j v hj => ?_⟩, rfl, rfl, rfl⟩
    rw [List.getElem?_drop] at hj
    obtain ⟨hl, y, e1, e2, e3⟩ := hR (off + j) v hj
    rw [add_spot hsp]
    exact ⟨hl, y, by simpa [Nat.add_assoc] using e1, by simpa [Nat.add_assoc] using e2, e3⟩
  · cases hv
theorem op_fieldAddr {t : TypeId} {x : Operand} {i : Nat} {x' : Opd} {fs : Array Field} {f : Field} {m : Nat} (ho : o.op = .fieldAddr t x i) (ht : under P t = some (.struct fs)) (hf : fs[i]? = some f) (hs : szOf P f.type = some m) (hm : m ≠ 0) (hx : opd0 x = some x') (hC : CoreS n E σ [] a.tmps.toList [] w.heap)
    (hr : (opProg callee base o.dst (.fieldAddr f.offset x')).run σ = some σ') (K : NextOk n base E σ' a w next) : o.upon P a next Q ((execOp a.eval o).run P w) := by
  obtain ⟨u, hr, ⟨s, hS, hs'⟩, hrf, _⟩ := opd_rel (v := .nil) hC (opd0_ok a hx) hr
  obtain ⟨v, hv, hr⟩ := optV_run hr
  have hl : u.leaf = true ∧ ∀ g, u ≠ .gone g := by cases u <;> first | (simp [ptrOff] at hv; done) | exact ⟨rfl, fun g => by simp⟩
  obtain ⟨_, hR⟩ := rel_leaf hS hl.1 hl.2
  obtain ⟨ad, e, hR2, r1, r2, r3⟩ := ptrOff_rel hR hv
  refine value_end (hC.pushLeaf r2 r3 hR2 ?_) (Grow.refl _ _ _) (WSame.refl _) hr K ?_
  · rw [r1]; intro r hr'
    exact hrf r (by rw [V.refs, leaves_leaf hl.1]; simpa using hr')
  · simp [execOp, ho, e, Instr.fieldAt, run_under ht, hf, Instr.sureAddr, fieldPlace, run_size hs, hm]
theorem part_eq {t : TypeId} {agg : Bool} {m off : Nat} {arr : Array Value} (ha : aggOf P t = some agg) (hs : szOf P t = some m) (hm : off + m ≤ arr.size) (h1 : agg = false → m = 1) :
    (part t arr off).run P w = .ok (if agg then .agg ((arr.toList.drop off).take m).toArray else ((arr.toList.drop off).take m).headD undef) w := by
  unfold part
  simp only [Sem.run_bind, run_aggOf ha, Result.andThen_ok]
  cases agg with
  | true =>
    have : arr.extract off (off + m) = ((arr.toList.drop off).take m).toArray := by
      apply Array.ext'
      simp [List.extract_eq_take_drop]
    simp [run_size hs, this]
  | false =>
    have := h1 rfl
    subst this
    have hlt : off < arr.size := by omega
    have h2 : ((arr.toList.drop off).take 1).headD undef = arr[off] := by
      rw [List.drop_eq_getElem_cons (by simpa using hlt)]; simp
    simp only [Bool.false_eq_true, if_false, h2]
    simp [hlt]
theorem op_field {t : TypeId} {x : Operand} {i : Nat} {x' : Opd} {fs : Array Field} {f : Field} {m : Nat} {agg : Bool} (ho : o.op = .field t x i) (ht : under P t = some (.struct fs)) (hf : fs[i]? = some f) (hs : szOf P f.type = some m) (ha : aggOf P f.type = some agg) (hx : opd P t x = some x')
    (hC : CoreS n E σ [] a.tmps.toList [] w.heap) (hr : (opProg callee base o.dst (.field f.offset m agg x')).run σ = some σ') (K : NextOk n base E σ' a w next) : o.upon P a next Q ((execOp a.eval o).run P w) := by
  obtain ⟨u, hr, ⟨s, hS, hs'⟩, hrf, h1, h2⟩ := opd_rel (v := .nil) hC (opd_ok a hx) hr
  split at hr
  · rename_i cs
    rw [Prog.run_ite] at hr
    split at hr
    · rename_i hle
      obtain ⟨⟨arr, e, hl⟩, hcs⟩ := hS
      have hx2 : ∀ (j : Nat) (y : Value), ((arr.toList.drop f.offset).take m)[j]? = some y → arr[f.offset + j]? = some y ∧ j < m := by
        intro j y hj
        have hj' := lt_of_getElem? hj
        simp only [List.length_take] at hj'
        rw [List.getElem?_take_of_lt (by omega), List.getElem?_drop] at hj
        exact ⟨by simpa using hj, by omega⟩
      have hend : ∀ (v : V), CoreS n E σ ([] ++ [v]) a.tmps.toList ([] ++ [if agg then .agg ((arr.toList.drop f.offset).take m).toArray else ((arr.toList.drop f.offset).take m).headD undef]) w.heap → (agg = false → m = 1) → (putO o.dst v .ret).run σ = some σ' → o.upon P a next Q ((execOp a.eval o).run P w) := by
        intro v hC2 hm1 hr
        refine value_end hC2 (Grow.refl _ _ _) (WSame.refl _) hr K ?_
        have hp := part_eq (P := P) (w := w) (arr := arr) (off := f.offset) ha hs (by omega) hm1
        simp only [execOp, ho, e, Instr.field, asAgg, Sem.run_bind, run_under ht, Result.andThen_ok, hf, Sem.run_pure, hp]
      have hlen : ((cs.drop f.offset).take m).length = m := by rw [List.length_take, List.length_drop]; omega
      have hlen2 : ((arr.toList.drop f.offset).take m).length = m := by rw [List.length_take, List.length_drop]; simp; omega
      cases x' with
      | tmp t' =>
        obtain ⟨v, hv, hr3⟩ := optV_run hr
        have ht' : t' < n := by
          rcases Nat.lt_or_ge t' n with h | h
          · exact h
          · have := h1 t' rfl; rw [hC.slotBig (by omega)] at this; cases this
        have hst := hs' t' rfl ht'
        subst hst
        obtain ⟨hC2, hm1⟩ := hC.pushCells (ys := (arr.toList.drop f.offset).take m) (by rw [borrows_len, hlen, hlen2]) (fun j z y hz hy => by
          rw [borrows_get] at hz
          obtain ⟨z', hz1, rfl⟩ := Option.map_eq_some_iff.1 hz
          obtain ⟨hz2, hz3⟩ := mem_sub hz1
          obtain ⟨hy2, _⟩ := hx2 j y hy
          have hR := hcs (f.offset + j) z' y hz2 (by simpa [vleaves, e] using hy2)
          refine ⟨⟨.slot 0 0, ?_⟩, borrow1_own _ _, borrow1_leaf hR.leaf, fun r hr => ?_⟩
          · rw [Nat.zero_add]
            refine borrow1_rel hR ?_
            obtain ⟨x2, hx2'⟩ := exists_getElem? (l := a.tmps.toList) (i := s) (hC.tl ▸ ht')
            have hok := opd_ok (P := P) a hx
            simp only [OpdOk] at hok
            rw [getD_of_getElem? hx2'] at hok
            simp only [hd, List.append_nil, hx2', Option.bind_some]
            rw [hok, e]; simpa [vleaves] using hy2
          · rcases borrow1_refs _ _ r hr with h | ⟨h, h'⟩
            · exact hrf r (mem_refs hz2 h)
            · refine ⟨fun t i e => by rw [h] at e; cases e; exact ht', z', ?_, h'⟩
              rw [h, ct_append_left _ _ _ _ _ (hC.sl ▸ ht'), Nat.zero_add]
              show (σ.slot s).leaves[f.offset + j]? = some z'
              rw [← h1 s rfl]; exact hz2) hv
        exact hend v hC2 (fun h => by have := hm1 h; rw [borrows_len, hlen] at this; exact this) hr3
      | val v' =>
        obtain ⟨v, hv, hr3⟩ := optV_run hr
        obtain ⟨rfl, hno⟩ := h2 v' rfl
        obtain ⟨hC2, hm1⟩ := hC.pushCells (ys := (arr.toList.drop f.offset).take m) (by rw [hlen, hlen2]) (fun j z y hz hy => by
          obtain ⟨hz2, hz3⟩ := mem_sub hz
          obtain ⟨hy2, _⟩ := hx2 j y hy
          have hR := hcs (f.offset + j) z y hz2 (by simpa [vleaves, e] using hy2)
          exact ⟨⟨_, hR⟩, hno z (List.mem_of_getElem? hz2), hR.leaf, fun r hr => hrf r (mem_refs hz2 hr)⟩) hv
        exact hend v hC2 (fun h => by have := hm1 h; rw [hlen] at this; exact this) hr3
    · cases hr
  · cases hr
end
end Go.Vq
namespace Go.Vq
section
variable {P : Program} {n base : Nat} {E E' : Env} {σ σ' : St} {hs : List V} {ts xs : List Value} {H H' : Array Go.Obj}
variable {callee : Callee} {o : Oper} {a : Act} {w : World} {next : Act → World → Prop} {Q : Exit → Act → World → Prop}
theorem View.load {sz m : Nat} {es : List V} {x : Value} {ad : Addr} {cap : Nat} {imm : Nat → Nat → Prop} (hw : View imm w.heap sz es x (some ad) cap) (hm : m ≤ es.length) :
    (loadCells ad (m * sz)).run P w = .ok (cellsAt w.heap ad (m * sz)).toArray w ∧
      ∀ (i : Nat) (e : V) (j : Nat) (v : V), i < m → es[i]? = some e → e.cells[j]? = some v → ∃ y, (cellsAt w.heap ad (m * sz))[i * sz + j]? = some y ∧ RelI imm w.heap v y := by
  have hcell : ∀ k, k < m * sz → ∃ y, cellAt w.heap ad.block (ad.off + k) = some y := by
    intro k hk
    have hz : 0 < sz := by rcases Nat.eq_zero_or_pos sz with h | h; · subst h; simp at hk
                           · exact h
    have h1 : k / sz < m := Nat.div_lt_of_lt_mul (by rw [Nat.mul_comm]; exact hk)
    obtain ⟨e, he⟩ := exists_getElem? (l := es) (i := k / sz) (by omega)
    obtain ⟨v, hv⟩ := exists_getElem? (l := e.cells) (i := k % sz) (by rw [(hw.elems.1 e (List.mem_of_getElem? he)).1]; exact Nat.mod_lt _ hz)
    obtain ⟨ad', y, e1, e2, _⟩ := hw.elems.2 _ e _ v he hv
    cases e1
    rw [Nat.mul_comm, Nat.div_add_mod] at e2
    exact ⟨y, e2⟩
  refine ⟨?_, fun i e j v hi he hv => ?_⟩
  · have := run_loadCells_list (P := P) w ad (cellsAt w.heap ad (m * sz)) fun j v hv => by
      have hj : j < m * sz := by have := lt_of_getElem? hv; rwa [cellsAt_len] at this
      obtain ⟨y, hy⟩ := hcell j hj
      rw [cellsAt_get hj hy] at hv; cases hv
      have hm0 : m ≠ 0 := by rintro rfl; simp at hj
      rw [cell_at (hw.spot ad rfl (by have := hw.le; omega)), hy]
    rw [cellsAt_len] at this; exact this
  · obtain ⟨ad', y, e1, e2, e3⟩ := hw.elems.2 i e j v he hv
    cases e1
    have hj := lt_of_getElem? hv
    rw [(hw.elems.1 e (List.mem_of_getElem? he)).1] at hj
    have : i * sz + j < m * sz := by
      have h1 : (i + 1) * sz ≤ m * sz := Nat.mul_le_mul_right _ hi
      rw [Nat.add_mul] at h1; omega
    exact ⟨y, cellsAt_get this e2, e3⟩
theorem asl_slice {slots : List V} {objs : List (Option Obj)} {vals : List Value} {h : Home} {r : Ref} {len : Nat} {x : Value} (hR : RelV E slots objs vals H h (.asl r len) x) : ∃ a c, x = .slice a len c := by
  cases r with
  | obj => obtain ⟨c, e, _⟩ := hR; exact ⟨_, _, e⟩
  | elem => obtain ⟨ad, c, e, _⟩ := hR; exact ⟨_, _, e⟩
theorem lenV_rel {k : TK} {v : V} {x : Value} {s : Nat} {kk : Nat → Prog} (hS : SlotRel E (σ.slots ++ hs) σ.objs (ts ++ xs) H s v x) (hf : k.fits v = true) (hr : (lenV v kk).run σ = some σ') :
    ∃ m, (kk m).run σ = some σ' ∧ ((k = .str ∧ ∃ b : List UInt8, x = .string ⟨b.toArray⟩ ∧ b.length = m) ∨ (∃ sz, k = .slc sz ∧ ∃ a c, x = .slice a m c) ∨ (k = .map ∧ x = .map none ∧ m = 0)) := by
  have hl : v.leaf = true ∧ ∀ g, v ≠ .gone g := by
    cases v <;> first | (cases k <;> simp [TK.fits, V.sz?] at hf; done) | exact ⟨rfl, fun g => by simp⟩
  obtain ⟨_, hR⟩ := rel_leaf hS hl.1 hl.2
  cases v <;> cases k <;> simp only [TK.fits, V.sz?, Bool.false_eq_true, beq_iff_eq, reduceCtorEq, Option.some.injEq] at hf <;> simp only [lenV] at hr
  all_goals first | (cases hr; done) | skip
  case str.str b => cases hR; exact ⟨_, hr, .inl ⟨rfl, _, rfl, rfl⟩⟩
  case isl.slc => obtain ⟨a, cap, hw, _⟩ := View.of_isl hR; exact ⟨_, hr, .inr (.inl ⟨_, rfl, _, _, hw.eq⟩)⟩
  case xsl.slc => obtain ⟨a, cap, e, _⟩ := hR; exact ⟨_, hr, .inr (.inl ⟨_, rfl, _, _, e⟩)⟩
  case fsl.slc => obtain ⟨a, cap, e, _⟩ := hR; exact ⟨_, hr, .inr (.inl ⟨_, rfl, _, _, e⟩)⟩
  case csl.slc => obtain ⟨_, a, e⟩ := hR; exact ⟨_, hr, .inr (.inl ⟨_, rfl, _, _, e⟩)⟩
  case srf.slc => obtain ⟨a, c, e, _⟩ := hR; exact ⟨_, hr, .inr (.inl ⟨_, rfl, _, _, e⟩)⟩
  case nilS.slc => have := relV_toVal hR rfl; exact ⟨_, hr, .inr (.inl ⟨_, rfl, _, _, this⟩)⟩
  case asl.slc =>
    obtain ⟨a0, c0, e⟩ := asl_slice hR
    exact ⟨_, hr, .inr (.inl ⟨_, rfl, _, _, e⟩)⟩
  case nilm.map => have := relV_toVal hR rfl; exact ⟨_, hr, .inr (.inr ⟨rfl, this, rfl⟩)⟩
theorem builtin_run {c : Call} {b : Builtin} (ho : o.op = .call c) (hc : c.callee = .builtin b) :
    (execOp a.eval o).run P w = (builtin b c.argTypes o.type (c.args.map fun | .const _ => true | _ => false) (c.args.map a.eval)).run P w := by
  simp [execOp, ho, resolve, hc, invoke]
  rfl
theorem op_lenArr {c : Call} {x : Operand} {t : TypeId} {m : Nat} (ho : o.op = .call c) (hc : c.callee = .builtin .len) (ha : c.args = #[x]) (ht : c.argTypes = #[t])
    (hu : (∃ e, under P t = some (.array m e)) ∨ ∃ p e, under P t = some (.pointer p) ∧ under P p = some (.array m e)) (hC : CoreS n E σ [] a.tmps.toList [] w.heap)
    {x' : Opd} (hr : (opProg callee base o.dst (.len (.arr m) x')).run σ = some σ') (K : NextOk n base E σ' a w next) : o.upon P a next Q ((execOp a.eval o).run P w) := by
  refine plain_end hC (y := .int .i64 m) rfl hr K ?_
  rw [builtin_run ho hc]
  rcases hu with ⟨e, h⟩ | ⟨p, e, h, h2⟩
  · simp [builtin, Builtin.len_, ha, ht, run_under h, goInt]
  · simp [builtin, Builtin.len_, ha, ht, run_under h, run_under h2, goInt]
theorem op_len {c : Call} {x : Operand} {t : TypeId} {k : TK} {x' : Opd} (ho : o.op = .call c) (hc : c.callee = .builtin .len) (ha : c.args = #[x]) (ht : c.argTypes = #[t])
    (hu : (k = .str ∧ under P t = some .string) ∨ (∃ sz e, k = .slc sz ∧ under P t = some (.slice e)) ∨ ∃ ky e, k = .map ∧ under P t = some (.map ky e)) (hx : opd P t x = some x') (hC : CoreS n E σ [] a.tmps.toList [] w.heap)
    (hr : (opProg callee base o.dst (.len k x')).run σ = some σ') (K : NextOk n base E σ' a w next) : o.upon P a next Q ((execOp a.eval o).run P w) := by
  have hr' : (gOpd x' fun v => if k.fits v then lenV v fun n => putO o.dst (.int .i64 n) .ret else .fail).run σ = some σ' := by
    rcases hu with ⟨rfl, _⟩ | ⟨sz, e, rfl, _⟩ | ⟨_, _, rfl, _⟩ <;> exact hr
  obtain ⟨u, hr2, ⟨s, hS, hs'⟩, hrest⟩ := opd_rel (v := .nil) hC (opd_ok a hx) hr'
  rw [Prog.run_ite] at hr2
  split at hr2
  · rename_i hf
    obtain ⟨m, hr3, hcase⟩ := lenV_rel hS hf hr2
    refine plain_end hC (y := .int .i64 m) rfl hr3 K ?_
    rw [builtin_run ho hc]
    rcases hcase with ⟨rfl, b, e, rfl⟩ | ⟨sz, rfl, a', c', e⟩ | ⟨rfl, e, rfl⟩
    · rcases hu with ⟨_, h⟩ | ⟨_, _, h, _⟩ | ⟨_, _, h, _⟩
      · simp [builtin, Builtin.len_, ha, ht, run_under h, goInt, e, size_mk]
      · cases h
      · cases h
    · rcases hu with ⟨h, _⟩ | ⟨_, _, _, h⟩ | ⟨_, _, h, _⟩
      · cases h
      · simp [builtin, Builtin.len_, ha, ht, run_under h, goInt, e]
      · cases h
    · rcases hu with ⟨h, _⟩ | ⟨_, _, h, _⟩ | ⟨_, _, _, h⟩
      · cases h
      · cases h
      · simp [builtin, Builtin.len_, ha, ht, run_under h, goInt, e]
  · cases hr2
theorem op_cap {c : Call} {x : Operand} {t e : TypeId} {x' : Opd} (ho : o.op = .call c) (hc : c.callee = .builtin .cap) (ha : c.args = #[x]) (ht : c.argTypes = #[t])
    (hu : under P t = some (.slice e)) (hx : opd P t x = some x') (hC : CoreS n E σ [] a.tmps.toList [] w.heap)
    (hr : (opProg callee base o.dst (.cap x')).run σ = some σ') (K : NextOk n base E σ' a w next) : o.upon P a next Q ((execOp a.eval o).run P w) := by
  obtain ⟨u, hr2, ⟨s, hS, hs'⟩, hrest⟩ := opd_rel (v := .nil) hC (opd_ok a hx) hr
  cases u <;> first | (cases hr2; done) | skip
  case nilS sz =>
    refine plain_end hC (y := .int .i64 0) rfl hr2 K ?_
    obtain ⟨_, hR⟩ := rel_leaf hS rfl (fun g => by simp)
    have hR' := relV_toVal hR rfl
    rw [builtin_run ho hc]
    simp [builtin, Builtin.cap_, ha, ht, run_under hu, goInt, hR']
  case csl sz es =>
    refine plain_end hC (y := .int .i64 es.length) rfl hr2 K ?_
    obtain ⟨_, hR⟩ := rel_leaf hS rfl (fun g => by simp)
    obtain ⟨_, a', e'⟩ := hR
    rw [builtin_run ho hc]
    simp [builtin, Builtin.cap_, ha, ht, run_under hu, goInt, e']
end
end Go.Vq
namespace Go.Vq
section
variable {P : Program} {n base : Nat} {E E' : Env} {σ σ' : St} {hs : List V} {ts xs : List Value} {H H' : Array Go.Obj}
variable {callee : Callee} {o : Oper} {a : Act} {w : World} {next : Act → World → Prop} {Q : Exit → Act → World → Prop}
theorem gOpds_sound (a : Act) (hC : CoreS n E σ hs a.tmps.toList xs H) : ∀ {as : List Operand} {os : List Opd} {k : List V → Prog}, as.mapM opd0 = some os → (gOpds os k).run σ = some σ' →
    ∃ vs, (k vs).run σ = some σ' ∧ vs.length = as.length ∧ ∀ (i : Nat) (v : V) (a0 : Operand) (y : Value), vs[i]? = some v → as[i]? = some a0 → v.toVal = some y → a.eval a0 = y
  | [], os, k, h, hr => by
    simp at h; subst h
    exact ⟨[], hr, rfl, fun i v a0 y h => by simp at h⟩
  | a0 :: as, os, k, h, hr => by
    rw [List.mapM_cons] at h
    simp only [Option.bind_eq_bind, Option.pure_def] at h
    obtain ⟨o0, h0, h⟩ := Option.bind_eq_some_iff.1 h
    obtain ⟨os', h1, h⟩ := Option.bind_eq_some_iff.1 h
    cases h
    obtain ⟨v, hr2, ⟨s, hS, _⟩, _⟩ := opd_rel (v := .nil) hC (opd0_ok a h0) hr
    obtain ⟨vs, hr3, hl, hall⟩ := gOpds_sound a hC h1 hr2
    refine ⟨v :: vs, hr3, by simp [hl], fun i v' b y hv hb hy => ?_⟩
    cases i with
    | zero => simp at hv hb; subst hv hb; exact slot_toVal hS hy
    | succ i => exact hall i v' b y (by simpa using hv) (by simpa using hb) hy
theorem maxFrom_run {k : IntKind} : ∀ (vs : List V) (ys : List Value) (m : Int) (r : V), vs.length = ys.length → (∀ (i : Nat) (v : V) (y z : Value), vs[i]? = some v → ys[i]? = some y → v.toVal = some z → y = z) → maxFrom k m vs = some r →
    ∃ q, r = .int k q ∧ (ys.foldlM Builtin.max2 (.int k m)).run P w = .ok (.int k q) w
  | [], [], m, r, _, _, h => by cases h; exact ⟨m, rfl, by simp⟩
  | [], _ :: _, _, _, h, _, _ => by simp at h
  | _ :: _, [], _, _, h, _, _ => by simp at h
  | v :: vs, y :: ys, m, r, hl, hall, h => by
    cases v <;> simp only [maxFrom, reduceCtorEq] at h
    rename_i k' b
    have e := hall 0 (.int k' b) y _ rfl rfl rfl
    subst e
    obtain ⟨q, e1, e2⟩ := maxFrom_run vs ys _ r (by simpa using hl) (fun i v y z h1 h2 h3 => hall (i + 1) v y z (by simpa using h1) (by simpa using h2) h3) h
    exact ⟨q, e1, by simp [Builtin.max2, e2]⟩
theorem minFrom_run {k : IntKind} : ∀ (vs : List V) (ys : List Value) (m : Int) (r : V), vs.length = ys.length → (∀ (i : Nat) (v : V) (y z : Value), vs[i]? = some v → ys[i]? = some y → v.toVal = some z → y = z) → minFrom k m vs = some r →
    ∃ q, r = .int k q ∧ (ys.foldlM Builtin.min2 (.int k m)).run P w = .ok (.int k q) w
  | [], [], m, r, _, _, h => by cases h; exact ⟨m, rfl, by simp⟩
  | [], _ :: _, _, _, h, _, _ => by simp at h
  | _ :: _, [], _, _, h, _, _ => by simp at h
  | v :: vs, y :: ys, m, r, hl, hall, h => by
    cases v <;> simp only [minFrom, reduceCtorEq] at h
    rename_i k' b
    have e := hall 0 (.int k' b) y _ rfl rfl rfl
    subst e
    obtain ⟨q, e1, e2⟩ := minFrom_run vs ys _ r (by simpa using hl) (fun i v y z h1 h2 h3 => hall (i + 1) v y z (by simpa using h1) (by simpa using h2) h3) h
    exact ⟨q, e1, by simp [Builtin.min2, e2]⟩
theorem op_max {c : Call} {os : List Opd} (ho : o.op = .call c) (hc : c.callee = .builtin .max) (hx : c.args.toList.mapM opd0 = some os) (hC : CoreS n E σ [] a.tmps.toList [] w.heap)
    (hr : (opProg callee base o.dst (.max os)).run σ = some σ') (K : NextOk n base E σ' a w next) : o.upon P a next Q ((execOp a.eval o).run P w) := by
  obtain ⟨vs, hr, hl, hall⟩ := gOpds_sound a hC hx hr
  obtain ⟨v, hv, hr⟩ := optV_run hr
  cases vs with
  | nil => cases hv
  | cons v0 vs =>
    cases v0 <;> simp only [maxV, reduceCtorEq] at hv
    rename_i k m
    obtain ⟨as, has⟩ : ∃ as, c.args.toList = as := ⟨_, rfl⟩
    rw [has] at hl hall
    cases as with
    | nil => simp at hl
    | cons a0 as =>
      have e := hall 0 _ a0 _ rfl rfl rfl
      obtain ⟨q, rfl, e2⟩ := maxFrom_run (P := P) (w := w) vs (as.map a.eval) m v (by simpa using hl) (fun i v y z h1 h2 h3 => by
        rw [List.getElem?_map] at h2
        obtain ⟨b, hb, rfl⟩ := Option.map_eq_some_iff.1 h2
        exact hall (i + 1) v b z (by simpa using h1) (by simpa using hb) h3) hv
      refine plain_end hC (y := .int k q) rfl hr K ?_
      rw [builtin_run ho hc]
      have e3 : c.args.toList.map a.eval = .int k m :: as.map a.eval := by rw [has, List.map_cons, e]
      simp [builtin, Builtin.max_, e3, e2]
theorem op_min {c : Call} {os : List Opd} (ho : o.op = .call c) (hc : c.callee = .builtin .min) (hx : c.args.toList.mapM opd0 = some os) (hC : CoreS n E σ [] a.tmps.toList [] w.heap)
    (hr : (opProg callee base o.dst (.min os)).run σ = some σ') (K : NextOk n base E σ' a w next) : o.upon P a next Q ((execOp a.eval o).run P w) := by
  obtain ⟨vs, hr, hl, hall⟩ := gOpds_sound a hC hx hr
  obtain ⟨v, hv, hr⟩ := optV_run hr
  cases vs with
  | nil => cases hv
  | cons v0 vs =>
    cases v0 <;> simp only [minV, reduceCtorEq] at hv
    rename_i k m
    obtain ⟨as, has⟩ : ∃ as, c.args.toList = as := ⟨_, rfl⟩
    rw [has] at hl hall
    cases as with
    | nil => simp at hl
    | cons a0 as =>
      have e := hall 0 _ a0 _ rfl rfl rfl
      obtain ⟨q, rfl, e2⟩ := minFrom_run (P := P) (w := w) vs (as.map a.eval) m v (by simpa using hl) (fun i v y z h1 h2 h3 => by
        rw [List.getElem?_map] at h2
        obtain ⟨b, hb, rfl⟩ := Option.map_eq_some_iff.1 h2
        exact hall (i + 1) v b z (by simpa using h1) (by simpa using hb) h3) hv
      refine plain_end hC (y := .int k q) rfl hr K ?_
      rw [builtin_run ho hc]
      have e3 : c.args.toList.map a.eval = .int k m :: as.map a.eval := by rw [has, List.map_cons, e]
      simp [builtin, Builtin.min_, e3, e2]
theorem op_convInt {t t' : TypeId} {x : Operand} {x' : Opd} {k k' : IntKind} (ho : o.op = .convert t t' x) (h1 : under P t = some (.int k')) (h2 : under P t' = some (.int k)) (hx : opd0 x = some x') (hC : CoreS n E σ [] a.tmps.toList [] w.heap)
    (hr : (opProg callee base o.dst (.conv (.int k) x')).run σ = some σ') (K : NextOk n base E σ' a w next) : o.upon P a next Q ((execOp a.eval o).run P w) := by
  obtain ⟨u, hr, ⟨s, hS, hs'⟩, hrest⟩ := opd_rel (v := .nil) hC (opd0_ok a hx) hr
  clear hrest hs'
  cases u <;> simp only [] at hr <;> first | (cases hr; done) | skip
  rename_i k0 m
  have e := slot_toVal hS (y := .int k0 m) rfl
  refine plain_end hC (y := .int k (k.wrap m)) rfl hr K ?_
  simp [execOp, ho, e, convert, run_under h1, run_under h2, Conv.intToInt]
theorem op_convSame {t t' : TypeId} {x : Operand} {x' : Opd} (ho : o.op = .convert t t' x) (h1 : under P t = some .string) (h2 : under P t' = some .string) (hx : opd0 x = some x') (hC : CoreS n E σ [] a.tmps.toList [] w.heap)
    (hr : (opProg callee base o.dst (.conv .same x')).run σ = some σ') (K : NextOk n base E σ' a w next) : o.upon P a next Q ((execOp a.eval o).run P w) := by
  obtain ⟨u, hr, ⟨s, hS, hs'⟩, hrest⟩ := opd_rel (v := .nil) hC (opd0_ok a hx) hr
  clear hrest hs'
  cases u <;> simp only [] at hr <;> first | (cases hr; done) | skip
  rename_i b
  have e := slot_toVal hS (y := .string ⟨b.toArray⟩) rfl
  refine plain_end hC (y := .string ⟨b.toArray⟩) rfl hr K ?_
  simp [execOp, ho, e, convert, run_under h1, run_under h2]
theorem toList_loop (b : ByteArray) : ∀ (m i : Nat) (r : List UInt8), b.size - i = m → ByteArray.toList.loop b i r = r.reverse ++ b.data.toList.drop i := by
  intro m
  induction m with
  | zero =>
    intro i r h
    unfold ByteArray.toList.loop
    rw [if_neg (by omega)]
    have : b.data.toList.drop i = [] := List.drop_eq_nil_of_le (by have : b.size = b.data.toList.length := rfl
                                                                   omega)
    rw [this, List.append_nil]
  | succ m ih =>
    intro i r h
    unfold ByteArray.toList.loop
    rw [if_pos (by omega), ih (i + 1) _ (by omega)]
    have hlt : i < b.data.toList.length := by have : b.size = b.data.toList.length := rfl
                                              omega
    rw [List.drop_eq_getElem_cons hlt]
    have hd : b.data.size = b.size := rfl
    have : b.get! i = b.data.toList[i] := by
      simp only [ByteArray.get!]
      rw [getElem!_pos b.data i (by simpa using hlt)]; simp
    rw [this]; simp
theorem bytes_list (b : ByteArray) : (⟨b.toList.toArray⟩ : ByteArray) = b := by
  apply ByteArray.ext
  apply Array.ext'
  show b.toList = b.data.toList
  unfold ByteArray.toList
  rw [toList_loop b _ 0 [] rfl]; simp
theorem op_convRune {t t' : TypeId} {x : Operand} {x' : Opd} {k' : IntKind} (ho : o.op = .convert t t' x) (h1 : under P t = some (.int k')) (h2 : under P t' = some .string) (hx : opd0 x = some x') (hC : CoreS n E σ [] a.tmps.toList [] w.heap)
    (hr : (opProg callee base o.dst (.conv .rune x')).run σ = some σ') (K : NextOk n base E σ' a w next) : o.upon P a next Q ((execOp a.eval o).run P w) := by
  obtain ⟨u, hr, ⟨s, hS, hs'⟩, hrest⟩ := opd_rel (v := .nil) hC (opd0_ok a hx) hr
  clear hrest hs'
  cases u <;> simp only [] at hr <;> first | (cases hr; done) | skip
  rename_i k0 m
  have e := slot_toVal hS (y := .int k0 m) rfl
  refine plain_end hC (y := .string (Utf8.encode m)) (by simp only [V.toVal, bytes_list]) hr K ?_
  simp [execOp, ho, e, convert, run_under h1, run_under h2, Conv.intToString]
theorem textV_rel : ∀ (es : List V) (s : List UInt8), textV es = some s → ∃ ns : List Int, es = ns.map (V.int .u8) ∧ s = ns.map fun n => UInt8.ofNat n.toNat
  | [], s, h => by cases h; exact ⟨[], rfl, rfl⟩
  | e :: es, s, h => by
    unfold textV at h
    split at h
    · cases ‹e :: es = []›
    · rename_i m vs heq
      cases heq
      obtain ⟨s', h1, rfl⟩ := Option.map_eq_some_iff.1 h
      obtain ⟨ns, rfl, rfl⟩ := textV_rel _ s' h1
      exact ⟨m :: ns, rfl, rfl⟩
    · cases h
theorem push_bytes (ns : List Int) : ∀ (b : ByteArray), ns.foldl (fun r n => r.push (UInt8.ofNat n.toNat)) b = b ++ ⟨(ns.map fun n => UInt8.ofNat n.toNat).toArray⟩ := by
  induction ns with
  | nil => intro b; apply ByteArray.ext; simp [ByteArray.data_append]
  | cons m ns ih =>
    intro b
    rw [List.foldl_cons, ih]
    apply ByteArray.ext
    simp [ByteArray.data_append, ByteArray.data_push]
theorem op_convText {t t' e : TypeId} {x : Operand} {x' : Opd} (ho : o.op = .convert t t' x) (h1 : under P t = some (.slice e)) (h2 : under P t' = some .string) (h3 : under P e = some (.int .u8)) (hx : opd P t x = some x') (hC : CoreS n E σ [] a.tmps.toList [] w.heap)
    (hr : (opProg callee base o.dst (.conv .text x')).run σ = some σ') (K : NextOk n base E σ' a w next) : o.upon P a next Q ((execOp a.eval o).run P w) := by
  obtain ⟨u, hr, ⟨s, hS, hs'⟩, hrest⟩ := opd_rel (v := .nil) hC (opd_ok a hx) hr
  clear hrest hs'
  have hl : u.leaf = true ∧ ∀ g, u ≠ .gone g := by cases u <;> first | (cases hr; done) | exact ⟨rfl, fun g => by simp⟩
  obtain ⟨_, hR⟩ := rel_leaf hS hl.1 hl.2
  obtain ⟨sz, es, ad, cap, hr, hw⟩ := gView_sound hC hR hr
  split at hr
  · rename_i b hb
    obtain ⟨ns, rfl, rfl⟩ := textV_rel _ _ hb
    refine plain_end hC (y := .string ⟨_⟩) rfl hr K ?_
    have hconv : (Conv.bytesToString (a.eval x)).run P w = .ok (.string ⟨(ns.map fun n => UInt8.ofNat n.toNat).toArray⟩) w := by
      cases ad with
      | none =>
        have h0 := hw.nil rfl
        have h4 := hw.le
        have h5 : ns = [] := by cases ns with | nil => rfl | cons => simp [h0] at h4
        subst h5
        rw [hw.eq]; rfl
      | some ad =>
        obtain ⟨l1, l2⟩ := hw.load (P := P) (Nat.le_refl _)
        have hsz : ns ≠ [] → sz = 1 := by
          intro hne
          cases ns with
          | nil => exact absurd rfl hne
          | cons m ns =>
            have := (hw.elems.1 (.int .u8 m) (by simp)).1
            simpa [V.cells] using this.symm
        have hcells : cellsAt w.heap ad ((ns.map (V.int .u8)).length * sz) = ns.map (Value.int .u8) := by
          by_cases hne : ns = []
          · subst hne; simp [cellsAt]
          · have := hsz hne
            subst this
            apply List.ext_getElem?
            intro i
            rcases Nat.lt_or_ge i ns.length with hi | hi
            · obtain ⟨y, y1, y2⟩ := l2 i (.int .u8 ns[i]) 0 (.int .u8 ns[i]) (by simpa using hi) (by simp [hi]) rfl
              simp only [Nat.mul_one, Nat.add_zero] at y1
              have : y = .int .u8 ns[i] := by cases y2; rfl
              rw [this] at y1
              simp only [Nat.mul_one]
              rw [y1]; simp [hi]
            · rw [List.getElem?_eq_none (by rw [cellsAt_len]; simpa using hi), List.getElem?_eq_none (by simpa using hi)]
        rw [hcells] at l1
        have hb := run_bytesToString (P := P) w ad ns.length cap ns
        have hsz2 : ns.length * sz = ns.length := by
          by_cases hne : ns = []
          · subst hne; simp
          · rw [hsz hne]; simp
        rw [List.length_map, hsz2] at l1
        have := hb l1
        rw [push_bytes] at this
        rw [hw.eq, List.length_map, this]
        congr 2
    simp only [execOp, ho, convert, Sem.run_bind, run_under h1, run_under h2, Result.andThen_ok]
    have hx : ∃ l c, a.eval x = .slice ad l c := ⟨_, _, hw.eq⟩
    obtain ⟨l, c, hx⟩ := hx
    rw [hx] at hconv ⊢
    simp [run_under h3, hconv]
  · cases hr
end
end Go.Vq
namespace Go.Vq
section
variable {n : Nat} {E : Env} {slots : List V} {objs : List (Option Obj)} {vals : List Value} {H : Array Go.Obj}
def mvp (t off m N : Nat) : Home → Home
  | .slot s i => if s = t ∧ off ≤ i ∧ i < off + m then .slot N (i - off) else .slot s i
  | h => h
theorem Core.movePart (hC : Core n E slots objs vals H) {t off m : Nat} {v v' p : V} {x xp : Value} (hv : slots[t]? = some v) (hx : vals[t]? = some x) (hsh : Shape v' x)
    (hlv : ∀ i, v'.leaves[i]? = (v.leaves[i]?).map fun u => if off ≤ i ∧ i < off + m then wipe1 u else u)
    (hp : ∀ j u, p.leaves[j]? = some u → v.leaves[off + j]? = some u ∧ j < m) (hxp : ∀ j u y, p.leaves[j]? = some u → (vleaves xp)[j]? = some y → (∃ g, u = .gone g) ∨ (vleaves x)[off + j]? = some y) (hshp : Shape p xp) :
    Core n (E.retag (mvp t off m slots.length)) (slots.set t v' ++ [p]) objs (vals ++ [xp]) H := by
  have ht := lt_of_getElem? hv
  have hS := hC.slot t v x hv hx
  have hk : HomesKept n E slots objs vals H (E.retag (mvp t off m slots.length)) (slots.set t v' ++ [p]) objs (vals ++ [xp]) H := by
    intro h u hh hu hp
    cases h with
    | slot s i =>
      have hs : s < slots.length := by
        rcases Nat.lt_or_ge s slots.length with hs | hs
        · exact hs
        · have := ct_slot_big hs hu; subst this; simp [V.nextg] at hp
      have e1 : ct (slots.set t v' ++ [p]) objs (.slot s i) = if s = t then v'.leaves[i]? else ct slots objs (.slot s i) := by
        rw [ct_append_left _ _ _ _ _ (by simpa using hs), ct_set _ _ _ _ _ _ ht]
      have e2 : hd (E.retag (mvp t off m slots.length)) (vals ++ [xp]) H (.slot s i) = hd E vals H (.slot s i) := hd_append_left _ _ _ _ _ _ (hC.len ▸ hs)
      by_cases hst : s = t
      · subst hst
        rw [ct_getElem? hv] at hu
        have e3 := hlv i
        rw [hu] at e3
        simp only [Option.map_some] at e3
        by_cases hin : off ≤ i ∧ i < off + m
        · rw [if_pos hin] at e3
          refine ⟨wipe1 u, by rw [e1, if_pos rfl]; exact e3, by rw [wipe1_nextg]; exact Nat.le_refl _, ?_⟩
          by_cases ho : u.own = true
          · right; intro g sz hg; rw [wipe1_gone ho] at hg; cases hg
          · left; rw [wipe1_own u (by simpa using ho)]; exact ⟨rfl, e2⟩
        · rw [if_neg hin] at e3
          exact ⟨u, by rw [e1, if_pos rfl]; exact e3, Nat.le_refl _, .inl ⟨rfl, e2⟩⟩
      · exact ⟨u, by rw [e1, if_neg hst]; exact hu, Nat.le_refl _, .inl ⟨rfl, e2⟩⟩
    | obj o i => exact ⟨u, hu, Nat.le_refl _, .inl ⟨rfl, rfl⟩⟩
  have c1 := Env.retag_c1 E (mvp t off m slots.length) H
  refine ⟨by simp [hC.len], by have := hC.real; simp; omega, fun s u y hs hy => ?_, fun o cs ho => ?_, fun b hb => Env.retag_other (hC.fresh b hb), fun s u hs r hr => ?_⟩
  · rcases getElem?_append_one hs with ⟨h1, h2⟩ | ⟨h1, h2⟩
    · have h1' : s < slots.length := by simpa using h1
      rw [List.getElem?_append_left (hC.len ▸ h1')] at hy
      by_cases hst : s = t
      · subst hst
        rw [List.getElem?_set_self ht] at h2; cases h2
        rw [hx] at hy; cases hy
        refine ⟨hsh, fun i w z hw hz => ?_⟩
        rw [hlv i] at hw
        obtain ⟨u, hu, rfl⟩ := Option.map_eq_some_iff.1 hw
        by_cases hin : off ≤ i ∧ i < off + m
        · rw [if_pos hin]
          by_cases ho : u.own = true
          · rw [wipe1_gone ho]; trivial
          · rw [wipe1_own u (by simpa using ho)]
            exact hC.leaf hk c1 rfl hv hx hu hz (fun h => absurd h ho) (fun h => absurd h ho)
        · rw [if_neg hin]
          exact hC.leaf hk c1 rfl hv hx hu hz (fun _ b hb => ⟨by rw [Env.retag_home hb]; simp only [mvp]; rw [if_neg (fun h => hin h.2)], rfl⟩)
            (fun _ b k hb => ⟨by rw [Env.retag_tail hb]; simp only [mvp]; rw [if_neg (fun h => hin h.2)], rfl⟩)
      · rw [List.getElem?_set_ne (fun e => hst e.symm)] at h2
        refine ⟨(hC.slot s u y h2 hy).1, fun i w z hw hz => hC.leaf hk c1 rfl h2 hy hw hz (fun _ b hb => ?_) (fun _ b k hb => ?_)⟩
        · exact ⟨by rw [Env.retag_home hb]; simp [mvp, hst], rfl⟩
        · exact ⟨by rw [Env.retag_tail hb]; simp [mvp, hst], rfl⟩
    · rw [List.length_set] at h1
      subst h1 h2
      rw [hC.len, List.getElem?_append_right (Nat.le_refl _)] at hy
      simp at hy; subst hy
      refine ⟨hshp, fun i w z hw hz => ?_⟩
      obtain ⟨hw', hi⟩ := hp i w hw
      rcases hxp i w z hw hz with ⟨g, rfl⟩ | hz'
      · trivial
      refine hC.leaf hk c1 rfl hv hx hw' hz' (fun _ b hb => ?_) (fun _ b k hb => ?_)
      · exact ⟨by rw [Env.retag_home hb]; simp only [mvp]; rw [if_pos ⟨trivial, by omega, by omega⟩, Nat.add_sub_cancel_left], rfl⟩
      · exact ⟨by rw [Env.retag_tail hb]; simp only [mvp]; rw [if_pos ⟨trivial, by omega, by omega⟩, Nat.add_sub_cancel_left], rfl⟩
  · refine hC.objKept c1 rfl ho (fun h => ⟨Env.retag_obj h, rfl⟩) (fun _ _ _ _ b hb => ⟨by rw [Env.retag_home hb]; rfl, rfl⟩) (fun _ _ _ _ b k hb => ⟨by rw [Env.retag_tail hb]; rfl, rfl⟩)
  · rcases getElem?_append_one hs with ⟨h1, h2⟩ | ⟨h1, h2⟩
    · by_cases hst : s = t
      · subst hst
        rw [List.getElem?_set_self ht] at h2; cases h2
        rw [V.refs, List.mem_flatMap] at hr
        obtain ⟨w, hw, hr⟩ := hr
        obtain ⟨i, hi⟩ := List.mem_iff_getElem?.1 hw
        rw [hlv i] at hi
        obtain ⟨u, hu, rfl⟩ := Option.map_eq_some_iff.1 hi
        have hr' : r ∈ u.refs1 := by
          split at hr
          · exact refs1_wipe1 u r hr
          · exact hr
        have := hC.refs s v hv r (mem_refs hu hr')
        exact ⟨this.1, hk.bound this⟩
      · rw [List.getElem?_set_ne (fun e => hst e.symm)] at h2
        have := hC.refs s u h2 r hr
        exact ⟨this.1, hk.bound this⟩
    · subst h2
      rw [V.refs, List.mem_flatMap] at hr
      obtain ⟨w, hw, hr⟩ := hr
      obtain ⟨i, hi⟩ := List.mem_iff_getElem?.1 hw
      have := hC.refs t v hv r (mem_refs (hp i w hi).1 hr)
      exact ⟨this.1, hk.bound this⟩
end
section
variable {P : Program} {n base : Nat} {E E' : Env} {σ σ' : St} {hs : List V} {ts xs : List Value} {H H' : Array Go.Obj}
variable {callee : Callee} {o : Oper} {a : Act} {w : World} {next : Act → World → Prop} {Q : Exit → Act → World → Prop}
theorem CoreS.takePart (hC : CoreS n E σ hs ts xs H) {t off m : Nat} (ht : t < n) {v' p : V} {xp : Value} (hsh : Shape v' (ts.getD t undef))
    (hlv : ∀ i, v'.leaves[i]? = ((σ.slot t).leaves[i]?).map fun u => if off ≤ i ∧ i < off + m then wipe1 u else u)
    (hp : ∀ j u, p.leaves[j]? = some u → (σ.slot t).leaves[off + j]? = some u ∧ j < m) (hxp : ∀ j u y, p.leaves[j]? = some u → (vleaves xp)[j]? = some y → (∃ g, u = .gone g) ∨ (vleaves (ts.getD t undef))[off + j]? = some y) (hshp : Shape p xp) :
    CoreS n (E.retag (mvp t off m (n + hs.length))) (σ.setS t v') (hs ++ [p]) ts (xs ++ [xp]) H := by
  obtain ⟨v, hv⟩ := exists_getElem? (l := σ.slots) (i := t) (hC.sl ▸ ht)
  obtain ⟨x, hx⟩ := exists_getElem? (l := ts) (i := t) (hC.tl ▸ ht)
  have e1 : σ.slot t = v := getD_of_getElem? hv
  have e2 : ts.getD t undef = x := getD_of_getElem? hx
  rw [e2] at hsh hxp; rw [e1] at hlv hp
  have h2 := hC.core.movePart (t := t) (v := v) (x := x) (by rw [List.getElem?_append_left (hC.sl ▸ ht)]; exact hv) (by rw [List.getElem?_append_left (hC.tl ▸ ht)]; exact hx) hsh hlv hp hxp hshp
  refine ⟨by simp [St.setS, hC.sl], hC.tl, ?_⟩
  rw [show (σ.slots ++ hs).length = n + hs.length from by simp [hC.sl], List.set_append_left _ _ (by rw [hC.sl]; exact ht)] at h2
  rw [← List.append_assoc, ← List.append_assoc]
  exact h2
theorem flat_at {α β : Type} (f : α → List β) {l : List α} {i j : Nat} {v : α} {z : β} (hi : l[i]? = some v) (hz : (f v)[j]? = some z) : (l.flatMap f)[((l.take i).flatMap f).length + j]? = some z := by
  have hlt := lt_of_getElem? hi
  have hv : l[i] = v := by rw [List.getElem?_eq_getElem hlt] at hi; cases hi; rfl
  have e2 : l = l.take i ++ v :: l.drop (i + 1) := by rw [← hv]; simp
  conv => lhs; rw [e2]
  rw [List.take_append_of_le_length (by simp; omega), List.take_take, Nat.min_self, List.flatMap_append, List.flatMap_cons, List.getElem?_append_right (by omega), Nat.add_sub_cancel_left, List.getElem?_append_left (lt_of_getElem? hz)]
  exact hz
theorem part_get {vs : List V} {i : Nat} {v : V} (hi : vs[i]? = some v) (u : V) (hu : u.cells.length = v.cells.length) (k : Nat) :
    ((vs.set i u).flatMap V.cells)[k]? = if ((vs.take i).flatMap V.cells).length ≤ k ∧ k < ((vs.take i).flatMap V.cells).length + v.cells.length then u.cells[k - ((vs.take i).flatMap V.cells).length]? else (vs.flatMap V.cells)[k]? := by
  have hlt := lt_of_getElem? hi
  have hv : vs[i] = v := by rw [List.getElem?_eq_getElem hlt] at hi; cases hi; rfl
  have e1 : vs.set i u = vs.take i ++ u :: vs.drop (i + 1) := by rw [List.set_eq_take_append_cons_drop, if_pos hlt]
  have e2 : vs = vs.take i ++ v :: vs.drop (i + 1) := by rw [← hv]; simp
  have e3 : vs.flatMap V.cells = (vs.take i).flatMap V.cells ++ (v.cells ++ (vs.drop (i + 1)).flatMap V.cells) := by
    conv => lhs; rw [e2]
    simp
  rw [e1, e3, List.flatMap_append, List.flatMap_cons]
  generalize (vs.take i).flatMap V.cells = A
  generalize (vs.drop (i + 1)).flatMap V.cells = B
  rcases Nat.lt_or_ge k A.length with h | h
  · rw [List.getElem?_append_left h, if_neg (by omega), List.getElem?_append_left h]
  · rw [List.getElem?_append_right h, List.getElem?_append_right h]
    by_cases h2 : k < A.length + v.cells.length
    · rw [if_pos ⟨h, h2⟩, List.getElem?_append_left (by omega)]
    · rw [if_neg (fun hh => h2 hh.2), List.getElem?_append_right (by omega), List.getElem?_append_right (by omega), hu]
theorem op_extract {x : Operand} {x' : Opd} {i : Nat} (ho : o.op = .extract x i) (hx : opd0 x = some x') (hC : CoreS n E σ [] a.tmps.toList [] w.heap)
    (hr : (opProg callee base o.dst (.extract x' i)).run σ = some σ') (K : NextOk n base E σ' a w next) : o.upon P a next Q ((execOp a.eval o).run P w) := by
  have hok := opd0_ok a hx
  obtain ⟨u, hr, ⟨s, hS, hs'⟩, hrf, h1, h2⟩ := opd_rel (v := .nil) hC hok hr
  split at hr
  · rename_i vs
    split at hr
    · rename_i v hi
      obtain ⟨⟨ys, e, hl, hsh⟩, hall⟩ := hS
      have hiv := lt_of_getElem? hi
      obtain ⟨y, hy⟩ := exists_getElem? (l := ys.toList) (i := i) (by simp; omega)
      have hys : ys[i]? = some y := by simpa using hy
      have hrun : (execOp a.eval o).run P w = .ok (.value y) w := by simp [execOp, ho, e, Instr.extract, hys]
      have hsh1 := hsh i v y hi hys
      have hoff : ((ys.toList.take i).flatMap vcells).length = ((vs.take i).flatMap V.cells).length := by
        refine (flat_len _ _ (by simp; omega) fun k v' x' hv' hx' => ?_).symm
        rw [List.getElem?_take] at hv' hx'
        split at hv'
        · rename_i hk
          rw [if_pos hk] at hx'
          exact hsh k v' x' hv' (by simpa using hx')
        · cases hv'
      have hrel : ∀ (j : Nat) (u : V) (z : Value), v.cells[j]? = some u → (vcells y)[j]? = some z → (V.tup vs).leaves[((vs.take i).flatMap V.cells).length + j]? = some u ∧ (vleaves (a.eval x))[((vs.take i).flatMap V.cells).length + j]? = some z ∧
          RelV E (σ.slots ++ []) σ.objs (a.tmps.toList ++ []) w.heap (.slot s (((vs.take i).flatMap V.cells).length + j)) u z := by
        intro j u z hu hz
        have e1 := flat_at V.cells hi hu
        have e2 := flat_at vcells hy hz
        rw [hoff] at e2
        have e3 : (vleaves (a.eval x))[((vs.take i).flatMap V.cells).length + j]? = some z := by rw [e]; exact e2
        exact ⟨e1, e3, hall _ u z e1 e3⟩
      rw [Prog.run_ite] at hr
      split at hr
      · rename_i hp
        have hpl := plain_leaf hp
        have hc : vcells y = [y] := vcells_leaf ((shape1_leaf hpl.1).1 hsh1)
        obtain ⟨_, _, hR⟩ := hrel 0 v y (by rw [cells_leaf hpl.1]; rfl) (by rw [hc]; rfl)
        exact value_end (hC.pushLeaf hpl.1 hpl.2.1 hR (by rw [hpl.2.2.1]; intro r hr; cases hr)) (Grow.refl _ _ _) (WSame.refl _) hr K hrun
      · cases x' with
        | val v' => cases hr
        | tmp t =>
          have ht : t < n := by
            rcases Nat.lt_or_ge t n with h | h
            · exact h
            · have := h1 t rfl; rw [hC.slotBig (by omega)] at this; cases this
          have hst := hs' t rfl ht
          subst hst
          have hsl := h1 s rfl
          simp only [OpdOk] at hok
          have hr' : (putO o.dst v .ret).run (σ.setS s (.tup (vs.set i v.wipe))) = some σ' := hr
          have hcl : v.leaf = true ∨ ∃ cs, v = .agg cs := by
            cases v <;> first | exact .inl rfl | exact .inr ⟨_, rfl⟩ | exact hsh1.elim
          have hlv1 : v.leaves = v.cells := by
            rcases hcl with h | ⟨cs, rfl⟩
            · rw [leaves_leaf h, cells_leaf h]
            · rfl
          have hwc : v.wipe.cells = v.cells.map wipe1 := by
            rcases hcl with h | ⟨cs, rfl⟩
            · simp only [V.wipe, withLeaves_leaf h, leaves_leaf h, List.map_cons, List.map_nil, List.headD_cons, cells_leaf h]
              exact cells_leaf (wipe1_leaf h)
            · rfl
          have hC2 := hC.takePart (t := s) (off := ((vs.take i).flatMap V.cells).length) (m := v.cells.length) (v' := .tup (vs.set i v.wipe)) (p := v) (xp := y) ht ?_ ?_ ?_ ?_ ?_
          · exact value_end hC2 (Grow.retag _ _ _ _) (WSame.refl _) hr' K hrun
          · rw [hok, e]
            refine ⟨ys, rfl, by simpa using hl, fun k v1 x1 hv1 hx1 => ?_⟩
            by_cases hk : i = k
            · subst hk
              rw [List.getElem?_set_self hiv] at hv1; cases hv1
              rw [hys] at hx1; cases hx1
              rcases hcl with h | ⟨cs, rfl⟩
              · have : v.wipe.leaf = true := by
                  simp only [V.wipe, withLeaves_leaf h, leaves_leaf h, List.map_cons, List.map_nil, List.headD_cons]
                  exact wipe1_leaf h
                exact (shape1_leaf this).2 ((shape1_leaf h).1 hsh1)
              · obtain ⟨zs, ez, el⟩ := hsh1
                exact ⟨zs, ez, by simpa [V.leaves] using el⟩
            · rw [List.getElem?_set_ne hk] at hv1
              exact hsh k v1 x1 hv1 hx1
          · intro k
            rw [← hsl]
            show ((vs.set i v.wipe).flatMap V.cells)[k]? = ((vs.flatMap V.cells)[k]?).map _
            rw [part_get hi v.wipe (by rw [hwc]; simp) k]
            have e2 := part_get hi v rfl k
            have e3 : vs.set i v = vs := set_same hi
            rw [e3] at e2
            split
            · rename_i hin
              rw [if_pos hin] at e2
              rw [e2, hwc, List.getElem?_map]
            · rename_i hin
              cases (vs.flatMap V.cells)[k]? with
              | none => rfl
              | some z => simp only [Option.map_some, if_neg hin]
          · intro j u hu
            rw [hlv1] at hu
            exact ⟨by rw [← hsl]; exact flat_at V.cells hi hu, lt_of_getElem? hu⟩
          · intro j u z hu hz
            rw [hok]
            rw [hlv1] at hu
            by_cases hg : ∃ g, u = .gone g
            · exact .inl hg
            · refine .inr ?_
              have hvc : vleaves y = vcells y := by
                rcases hcl with h | ⟨cs, rfl⟩
                · have hc : vcells y = [y] := vcells_leaf ((shape1_leaf h).1 hsh1)
                  rw [cells_leaf h] at hu
                  have : u = v ∧ j = 0 := by cases j with | zero => simp at hu; exact ⟨hu.symm, rfl⟩ | succ j => simp at hu
                  obtain ⟨rfl, rfl⟩ := this
                  obtain ⟨_, _, hR⟩ := hrel 0 u y (by rw [cells_leaf h]; rfl) (by rw [hc]; rfl)
                  rw [hc, vleaves_leaf (relV_leafX hR fun g e => hg ⟨g, e⟩)]
                · obtain ⟨zs, rfl, el⟩ := hsh1; rfl
              rw [hvc] at hz
              exact (hrel j u z hu hz).2.1
          · rcases hcl with h | ⟨cs, rfl⟩
            · by_cases hg : ∃ g, v = .gone g
              · obtain ⟨g, rfl⟩ := hg; trivial
              · have hc : vcells y = [y] := vcells_leaf ((shape1_leaf h).1 hsh1)
                obtain ⟨_, _, hR⟩ := hrel 0 v y (by rw [cells_leaf h]; rfl) (by rw [hc]; rfl)
                exact shape_leaf h (relV_leafX hR fun g e => hg ⟨g, e⟩)
            · exact hsh1
    · cases hr
  · cases hr
end
end Go.Vq
namespace Go.Vq
section
variable {P : Program} {n base : Nat} {E E' : Env} {σ σ' : St} {hs : List V} {ts xs : List Value} {H H' : Array Go.Obj}
variable {callee : Callee} {o : Oper} {a : Act} {w : World} {next : Act → World → Prop} {Q : Exit → Act → World → Prop}
theorem op_indexArr {t e : TypeId} {x i : Operand} {x' i' : Opd} {len sz : Nat} {agg : Bool} (ho : o.op = .index t x i) (ht : under P t = some (.array len e)) (hs : szOf P e = some sz) (ha : aggOf P e = some agg) (hx : opd P t x = some x') (hi : opd0 i = some i')
    (hC : CoreS n E σ [] a.tmps.toList [] w.heap) (hr : (opProg callee base o.dst (.indexArr len sz agg x' i')).run σ = some σ') (K : NextOk n base E σ' a w next) : o.upon P a next Q ((execOp a.eval o).run P w) := by
  obtain ⟨kk, m, hm, hr⟩ := gInt_sound hC (opd0_ok a hi) hr
  obtain ⟨u, hr, ⟨s, hS, hs'⟩, hrest⟩ := opd_rel (v := .nil) hC (opd_ok a hx) hr
  clear hrest hs'
  split at hr
  · rename_i cs
    rw [Prog.run_ite] at hr
    split at hr
    · rename_i hc
      obtain ⟨h0, h1, h2, hp⟩ := hc
      obtain ⟨v, hv, hr⟩ := optV_run hr
      obtain ⟨⟨arr, ea, hl⟩, hall⟩ := hS
      obtain ⟨hC2, hm1⟩ := hC.pushCells (ys := (arr.toList.drop (m.toNat * sz)).take sz) (by simp [hl]) (fun j z y hz hy => by
        obtain ⟨hz1, _⟩ := mem_sub hz
        have hy1 : arr[m.toNat * sz + j]? = some y := by
          have hj := lt_of_getElem? hy
          simp only [List.length_take] at hj
          rw [List.getElem?_take_of_lt (by omega), List.getElem?_drop] at hy
          simpa using hy
        have hpl := List.all_eq_true.1 hp z (List.mem_of_getElem? hz1)
        have hR := hall _ z y hz1 (by rw [ea]; simpa [vleaves] using hy1)
        have := plain_leaf hpl
        exact ⟨⟨_, hR⟩, this.2.1, this.1, by rw [this.2.2.1]; intro r hr; cases hr⟩) hv
      refine value_end hC2 (Grow.refl _ _ _) (WSame.refl _) hr K ?_
      have hp := part_eq (P := P) (w := w) (arr := arr) (off := m.toNat * sz) ha hs (by omega) (fun h => by
        have := hm1 h; rw [List.length_take, List.length_drop] at this; omega)
      simp [execOp, ho, hm, ea, Instr.index, asIntOf, run_under ht, h0, h1, run_size hs, hp]
    · cases hr
  · cases hr
theorem op_indexAddrArr {t e : TypeId} {x i : Operand} {x' i' : Opd} {len sz : Nat} (ho : o.op = .indexAddr t x i) (ht : under P t = some (.array len e)) (hs : szOf P e = some sz) (hx : opd0 x = some x') (hi : opd0 i = some i')
    (hC : CoreS n E σ [] a.tmps.toList [] w.heap) (hr : (opProg callee base o.dst (.indexAddr (some len) sz x' i')).run σ = some σ') (K : NextOk n base E σ' a w next) : o.upon P a next Q ((execOp a.eval o).run P w) := by
  obtain ⟨kk, m, hm, hr⟩ := gInt_sound hC (opd0_ok a hi) hr
  obtain ⟨u, hr, ⟨s, hS, hs'⟩, hrf, _⟩ := opd_rel (v := .nil) hC (opd0_ok a hx) hr
  simp only [] at hr
  rw [Prog.run_ite] at hr
  split at hr
  · rename_i hc
    obtain ⟨h0, h1⟩ := hc
    obtain ⟨v, hv, hr⟩ := optV_run hr
    have hl : u.leaf = true ∧ ∀ g, u ≠ .gone g := by cases u <;> first | (simp [ptrOff] at hv; done) | exact ⟨rfl, fun g => by simp⟩
    obtain ⟨_, hR⟩ := rel_leaf hS hl.1 hl.2
    obtain ⟨ad, e, hR2, r1, r2, r3⟩ := ptrOff_rel hR hv
    refine value_end (hC.pushLeaf r2 r3 hR2 ?_) (Grow.refl _ _ _) (WSame.refl _) hr K ?_
    · rw [r1]; intro r hr'
      exact hrf r (by rw [V.refs, leaves_leaf hl.1]; simpa using hr')
    · simp [execOp, ho, hm, e, Instr.indexAt, asIntOf, run_under ht, h0, h1, run_size hs, Instr.sureAddr]
  · cases hr
theorem indexAt_run {t e : TypeId} {ad : Addr} {len cap sz : Nat} {kk : IntKind} {m : Int} (ht : under P t = some (.slice e)) (hs : szOf P e = some sz) (h0 : 0 ≤ m) (h1 : m < len) :
    (Instr.indexAt t (.slice (some ad) len cap) (.int kk m)).run P w = .ok (.pointer (some (ad.add (m.toNat * sz)))) w := by
  simp [Instr.indexAt, asIntOf, run_under ht, h0, h1, run_size hs]
theorem op_indexAddr {t e : TypeId} {x i : Operand} {x' i' : Opd} {sz : Nat} (ho : o.op = .indexAddr t x i) (ht : under P t = some (.slice e)) (hs : szOf P e = some sz) (hx : opd P t x = some x') (hi : opd0 i = some i')
    (hC : CoreS n E σ [] a.tmps.toList [] w.heap) (hr : (opProg callee base o.dst (.indexAddr none sz x' i')).run σ = some σ') (K : NextOk n base E σ' a w next) : o.upon P a next Q ((execOp a.eval o).run P w) := by
  obtain ⟨kk, m, hm, hr1⟩ := gInt_sound hC (opd0_ok a hi) hr
  clear hr
  have hok := opd_ok a hx
  obtain ⟨u, hr, ⟨s, hS, hs'⟩, hrf, h1, h2⟩ := opd_rel (v := .nil) hC hok hr1
  clear hr1
  have hrun : ∀ (ad : Addr) (l c : Nat), a.eval x = .slice (some ad) l c → 0 ≤ m → m < l → (execOp a.eval o).run P w = .ok (.value (.pointer (some (ad.add (m.toNat * sz))))) w := by
    intro ad l c e h0 h1
    simp [execOp, ho, hm, e, indexAt_run ht hs h0 h1]
  have himm : ∀ (g : Nat) (es : List V), RelI E.imm w.heap (.isl g sz es) (a.eval x) → 0 ≤ m → ∀ (e0 : V), es[m.toNat]? = some e0 → (putO o.dst (.iptr e0.cells) .ret).run σ = some σ' → o.upon P a next Q ((execOp a.eval o).run P w) := by
    intro g es hI h0 e0 he hr
    obtain ⟨ad, cap, hw, hii⟩ := View.of_isl hI
    have hlt := lt_of_getElem? he
    have hle := hw.le
    cases ad with
    | none => have := hw.nil rfl; omega
    | some ad =>
      have hsp := hw.spot ad rfl (by omega)
      refine value_end (hC.pushLeaf (h := .slot 0 0) (v := .iptr e0.cells) (x := .pointer (some (ad.add (m.toNat * sz)))) rfl rfl ⟨_, rfl, by rw [add_spot hsp], fun j v hj => ?_⟩ (by intro r hr; cases hr)) (Grow.refl _ _ _) (WSame.refl _) hr K (hrun ad _ _ hw.eq h0 (by omega))
      obtain ⟨ad', y, e1, e2, e3⟩ := hw.elems.2 _ e0 j v he hj
      cases e1
      have h4 := hii ad _ e0 j rfl he (lt_of_getElem? hj)
      rw [add_spot hsp]
      exact ⟨(hw.elems.1 e0 (List.mem_of_getElem? he)).2 v (List.mem_of_getElem? hj), y, by simpa [Nat.add_assoc] using h4, by simpa [Nat.add_assoc] using e2, e3⟩
  cases u
  all_goals (try (cases hr; done))
  case isl g sz' es =>
    replace hr : (if 0 ≤ m ∧ sz' = sz then (match es[m.toNat]? with | some e => putO o.dst (.iptr e.cells) .ret | none => .fail) else .fail).run σ = some σ' := hr
    rw [Prog.run_ite] at hr
    split at hr
    · rename_i hc
      obtain ⟨h0, rfl⟩ := hc
      obtain ⟨_, hR⟩ := rel_leaf hS rfl (fun g => by simp)
      split at hr
      · rename_i e0 he; exact himm g es hR h0 e0 he hr
      · cases hr
    · cases hr
  case csl sz' es =>
    replace hr : (if 0 ≤ m ∧ sz' = sz then (match es[m.toNat]? with | some e => putO o.dst (.iptr e.cells) .ret | none => .fail) else .fail).run σ = some σ' := hr
    rw [Prog.run_ite] at hr
    split at hr
    · rename_i hc
      obtain ⟨h0, rfl⟩ := hc
      obtain ⟨_, hR⟩ := rel_leaf hS rfl (fun g => by simp)
      split at hr
      · rename_i e0 he; exact himm 0 es hR.1 h0 e0 he hr
      · cases hr
    · cases hr
  case fsl g sz' es =>
    replace hr : (if 0 ≤ m ∧ sz' = sz then (match es[m.toNat]? with | some e => putO o.dst (.iptr e.cells) .ret | none => .fail) else .fail).run σ = some σ' := hr
    rw [Prog.run_ite] at hr
    split at hr
    · rename_i hc
      obtain ⟨h0, rfl⟩ := hc
      obtain ⟨_, hR⟩ := rel_leaf hS rfl (fun g => by simp)
      split at hr
      · rename_i e0 he
        refine himm 0 es ?_ h0 e0 he hr
        obtain ⟨ad, cap, e1, e2, e3, e4, e5, e6⟩ := hR
        refine isl_of_view (a := ad) (cap := cap) ⟨e1, e2, e3, e4, e6⟩ fun ad' i e j ha hi hj => ?_
        have hlt := lt_of_getElem? hi
        obtain ⟨ad'', arr, T, f, f1, f2, _⟩ := e5 (by omega)
        rw [ha] at f1; cases f1
        simp only [Env.imm, f2]
        rw [(e6.1 e (List.mem_of_getElem? hi)).1] at hj
        have : (i + 1) * sz' ≤ es.length * sz' := Nat.mul_le_mul_right _ hlt
        rw [Nat.add_mul] at this; omega
      · cases hr
    · cases hr
  case srf h g sz' off len =>
    replace hr : (if 0 ≤ m ∧ m < len ∧ sz' = sz then putO o.dst (.ptr (.elem h g sz (off + m.toNat) 0)) .ret else .fail).run σ = some σ' := hr
    rw [Prog.run_ite] at hr
    split at hr
    · rename_i hc
      obtain ⟨h0, h1, rfl⟩ := hc
      obtain ⟨_, hR⟩ := rel_leaf hS rfl (fun g => by simp)
      obtain ⟨a', c', e1, e2, e3, e4, e5⟩ := hR
      cases a' with
      | none => have := e3 rfl; omega
      | some ad =>
        have hsp := e4 ad rfl (by omega)
        refine value_end (hC.pushLeaf (h := .slot 0 0) (v := .ptr (.elem h g sz' (off + m.toNat) 0)) (x := .pointer (some (ad.add (m.toNat * sz')))) rfl rfl ⟨_, rfl, fun hvl => ?_⟩ ?_) (Grow.refl _ _ _) (WSame.refl _) hr K (hrun ad _ _ e1 h0 h1)
        · obtain ⟨a0, l, c, f1, f2⟩ := e5 hvl
          obtain ⟨ad0, rfl, f3, f4⟩ := f2 (by omega)
          cases f3
          refine ⟨ad0, l, c, f1, ?_⟩
          rw [add_spot rfl]
          simp only [Addr.mk.injEq, true_and, and_true]
          rw [Nat.add_mul]; omega
        · intro r hr'
          exact hrf r (by simpa [V.refs, V.leaves, V.refs1] using hr')
    · cases hr
  case xsl g sz' es =>
    cases x' with
    | val v' => cases hr
    | tmp t0 =>
      replace hr : (if 0 ≤ m ∧ m < es.length ∧ sz' = sz then putO o.dst (.ptr (.elem (.slot t0 0) g sz m.toNat 0)) .ret else .fail).run σ = some σ' := hr
      rw [Prog.run_ite] at hr
      split at hr
      · rename_i hc
        obtain ⟨h0, h3, rfl⟩ := hc
        obtain ⟨_, hR⟩ := rel_leaf hS rfl (fun g => by simp)
        have ht0 : t0 < n := by
          rcases Nat.lt_or_ge t0 n with h | h
          · exact h
          · have := h1 t0 rfl; rw [hC.slotBig (by omega)] at this; cases this
        have hsl := h1 t0 rfl
        simp only [OpdOk] at hok
        obtain ⟨ad, cap, e1, e2, e3, e4, e5, e6⟩ := hR
        obtain ⟨ad', arr, T, f, f1, _⟩ := e5 (by omega)
        subst f1
        have hsp := e4 ad' rfl (by omega)
        refine value_end (hC.pushLeaf (h := .slot 0 0) (v := .ptr (.elem (.slot t0 0) g sz' m.toNat 0)) (x := .pointer (some (ad'.add (m.toNat * sz')))) rfl rfl ⟨_, rfl, fun hvl => ?_⟩ ?_) (Grow.refl _ _ _) (WSame.refl _) hr K (hrun ad' _ _ e1 h0 (by omega))
        · refine ⟨ad', es.length, cap, ?_, by rw [add_spot hsp]; rfl⟩
          obtain ⟨x2, hx2'⟩ := exists_getElem? (l := a.tmps.toList) (i := t0) (hC.tl ▸ ht0)
          rw [getD_of_getElem? hx2'] at hok
          simp only [hd, List.append_nil, hx2', Option.bind_some]
          rw [hok, e1]; rfl
        · intro r hr'
          simp only [V.refs1, List.mem_singleton] at hr'
          subst hr'
          refine ⟨fun t i e => (by cases e; exact ht0), .xsl g sz' es, ?_, by simp [V.nextg]⟩
          rw [ct_append_left _ _ _ _ _ (hC.sl ▸ ht0)]
          show (σ.slot t0).leaves[0]? = some _
          rw [← hsl]; rfl
      · cases hr
  case asl r len =>
    replace hr : (if 0 ≤ m ∧ m < len ∧ sz = 1 then optV (ptrOff m.toNat (.ptr r)) fun v => putO o.dst v .ret else .fail).run σ = some σ' := hr
    rw [Prog.run_ite] at hr
    split at hr
    · rename_i hc
      obtain ⟨h0, h3, rfl⟩ := hc
      obtain ⟨v, hv, hr⟩ := optV_run hr
      obtain ⟨_, hR⟩ := rel_leaf hS rfl (fun g => by simp)
      have hp : ∃ (ad : Addr) (c : Nat), a.eval x = .slice (some ad) len c ∧ RelV E (σ.slots ++ []) σ.objs (a.tmps.toList ++ []) w.heap (.slot s 0) (.ptr r) (.pointer (some ad)) := by
        cases r with
        | obj ob off => obtain ⟨c, e, _, hal⟩ := hR; exact ⟨_, c, e, rfl, hal⟩
        | elem h g sz i off => obtain ⟨ad, c, e1, e2, es, e3⟩ := hR; exact ⟨ad, c, e1, ad, rfl, e3⟩
      obtain ⟨ad, c, e, hR2⟩ := hp
      obtain ⟨ad2, e2, hR3, r1, r2, r3⟩ := ptrOff_rel hR2 hv
      cases e2
      refine value_end (hC.pushLeaf r2 r3 hR3 ?_) (Grow.refl _ _ _) (WSame.refl _) hr K ?_
      · rw [r1]; intro q hq
        refine hrf q ?_
        rw [V.refs, leaves_leaf rfl]
        simp only [List.flatMap_cons, List.flatMap_nil, List.append_nil]
        cases r with
        | obj => cases hq
        | elem => exact hq
      · have := hrun ad _ _ e h0 h3
        rw [Nat.mul_one] at this; exact this
    · cases hr
end
end Go.Vq
