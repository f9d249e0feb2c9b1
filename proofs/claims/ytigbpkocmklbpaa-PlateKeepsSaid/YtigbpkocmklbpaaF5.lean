/- A machine of values and its tie to the model, and runs of it: part 5 of 14 (no law of Go is stated here). -/
import Derived.Test.YtigbpkocmklbpaaF4
import Derived.Laws.Slices
import Derived.Laws.Strings2
import Derived.Laws.Append
import Derived.Laws.AppendOwn
set_option linter.unusedVariables false
set_option linter.unusedSimpArgs false
set_option linter.unusedSectionVars false
namespace Go.Vq
section
variable {P : Program} {n base : Nat} {E E' : Env} {σ σ' : St} {hs : List V} {ts xs : List Value} {H H' : Array Go.Obj}
variable {callee : Callee} {o : Oper} {a : Act} {w : World} {next : Act → World → Prop} {Q : Exit → Act → World → Prop}
theorem add_eq {ad : Addr} (h : ad.spot = none) (m : Nat) : ad.add m = ⟨ad.block, ad.off + m, none⟩ := by
  unfold Addr.add
  split
  · cases ad; simp_all
  · rfl
theorem sliced_addr {a : Option Addr} {l h m s : Nat} : ∃ a', sliced a l h m s = .slice a' (h - l) (m - l) ∧ a' = (if m = l then a else a.map (·.add (l * s))) := ⟨_, rfl, rfl⟩
theorem View.sliced {imm : Nat → Nat → Prop} {sz cap l h m : Nat} {es : List V} {x : Value} {a : Option Addr} (hw : View imm H sz es x a cap) (h1 : l ≤ h) (h2 : h ≤ es.length) (h3 : h ≤ m) (h4 : m ≤ cap) :
    ∃ a', Go.sliced a l h m sz = .slice a' (h - l) (m - l) ∧ View imm H sz ((es.drop l).take (h - l)) (Go.sliced a l h m sz) a' (m - l) ∧ (m - l ≠ 0 → ∃ ad, a = some ad ∧ a' = some ⟨ad.block, ad.off + l * sz, none⟩ ∧ l + (m - l) ≤ cap) := by
  have hlen : ((es.drop l).take (h - l)).length = h - l := by simp; omega
  refine ⟨if m = l then a else a.map (·.add (l * sz)), rfl, ⟨by rw [hlen]; rfl, by rw [hlen]; omega, fun hn => ?_, fun ad hn hcz => ?_, ?_⟩, fun hne => ?_⟩
  · split at hn
    · omega
    · cases a with
      | none => have := hw.nil rfl; omega
      | some ad => simp at hn
  · split at hn
    · omega
    · obtain ⟨ad0, h5, rfl⟩ := Option.map_eq_some_iff.1 hn
      rw [add_eq (hw.spot ad0 h5 (by omega))]
  · by_cases hml : m = l
    · rw [if_pos hml]
      have : (es.drop l).take (h - l) = [] := by rw [show h - l = 0 by omega]; simp
      rw [this]; exact Elems.nil _ _ _ _
    · rw [if_neg hml]
      cases a with
      | none => have := hw.nil rfl; omega
      | some ad =>
        have := hw.elems.sub (off := l) (len := h - l)
        simp only [Option.map_some]
        rw [add_eq (hw.spot ad rfl (by omega))]; exact this
  · rw [if_neg (by omega)]
    cases a with
    | none => have := hw.nil rfl; omega
    | some ad => exact ⟨ad, rfl, by simp only [Option.map_some]; rw [add_eq (hw.spot ad rfl (by omega))], by omega⟩
def V.lenOf : V → Nat
  | .isl _ _ es | .xsl _ _ es | .fsl _ _ es | .csl _ es => es.length
  | .srf _ _ _ _ len => len
  | .asl _ len => len
  | _ => 0
theorem isl_nil {imm : Nat → Nat → Prop} {a : Option Addr} {sz cap : Nat} (hn : a = none → cap = 0) (hs : ∀ ad, a = some ad → cap ≠ 0 → ad.spot = none) : RelI imm H (.isl 0 sz []) (.slice a 0 cap) :=
  .isl 0 sz [] a cap (fun _ _ => undef) (by simp) hn hs (fun _ h => by cases h) (fun _ _ _ _ _ _ h => by simp at h) (fun _ _ _ _ h => by simp at h)
theorem subV_sound {d : Option Nat} {x' : Opd} {v : V} {s sz l h len cap : Nat} {a0 : Option Addr} {capped : Bool} (hC : CoreS n E σ [] ts [] H) (hR : RelV E (σ.slots ++ []) σ.objs (ts ++ []) H (.slot s 0) v (.slice a0 len cap)) (hsz : v.sz? = some sz)
    (hrf : RefsOk n (σ.slots ++ []) σ.objs v.refs1) (hgrab : ∀ k, v.own = true → (drain x' k).run σ = some σ' → ∃ E1 σ1, CoreS n E1 σ1 [v] ts [.slice a0 len cap] H ∧ Grow base E H E1 H ∧ k.run σ1 = some σ')
    (h1 : l ≤ h) (h2 : h ≤ len) (hr : (subV d x' v l h capped).run σ = some σ') :
    ∃ E1 σ1 v', CoreS n E1 σ1 [v'] ts [sliced a0 l h (if capped then h else cap) sz] H ∧ Grow base E H E1 H ∧ (putO d v' .ret).run σ1 = some σ' := by
  have himm : ∀ {es : List V} {cap' : Nat}, (∃ g, RelI E.imm H (.isl g sz es) (.slice a0 len cap)) → ∀ m, h ≤ m → m ≤ cap → RelI E.imm H (.isl 0 sz ((es.drop l).take (h - l))) (sliced a0 l h m sz) := by
    intro es cap' hI m h3 h4
    obtain ⟨g, hI⟩ := hI
    obtain ⟨a1, cap1, hw, hi⟩ := View.of_isl hI
    have e := hw.eq
    injection e with e1 e2 e3
    subst e1 e2 e3
    obtain ⟨a', e1, hw', ha⟩ := hw.sliced h1 h2 h3 h4
    exact isl_of_sub (cap := cap) hw' ha hi
  have hleaf : ∀ {v' : V} {y : Value}, v'.leaf = true → v'.own = false → RelV E (σ.slots ++ []) σ.objs (ts ++ []) H (.slot s 0) v' y → RefsOk n (σ.slots ++ []) σ.objs v'.refs1 → CoreS n E σ [v'] ts [y] H := by
    intro v' y k1 k2 k3 k4
    exact hC.pushLeaf k1 k2 k3 k4
  have hnoref : ∀ {v' : V}, v'.refs1 = [] → RefsOk n (σ.slots ++ []) σ.objs v'.refs1 := by
    intro v' e; rw [e]; intro r hr; cases hr
  cases v <;> first | (cases hr; done) | skip
  case str => cases hsz
  case isl g sz' es =>
    cases hsz
    have hle : len ≤ cap := by obtain ⟨a1, cap1, hw, _⟩ := View.of_isl hR; have e := hw.eq; injection e with e1 e2 e3; subst e2 e3; exact hw.le
    cases capped with
    | false => exact ⟨E, σ, _, hleaf (v' := .isl 0 sz _) rfl rfl (himm (cap' := 0) ⟨g, hR⟩ cap (by omega) (Nat.le_refl _)) (hnoref rfl), Grow.refl _ _ _, hr⟩
    | true =>
      have hI := himm (cap' := 0) ⟨g, hR⟩ h (Nat.le_refl _) (by omega)
      have hlen : ((es.drop l).take (h - l)).length = h - l := by
        obtain ⟨a1, cap1, hw, _⟩ := View.of_isl hR; have e := hw.eq; injection e with e1 e2 e3; simp; omega
      exact ⟨E, σ, _, hleaf (v' := .csl sz _) rfl rfl ⟨hI, _, by rw [hlen]; rfl⟩ (hnoref rfl), Grow.refl _ _ _, hr⟩
  case nilS sz' =>
    cases hsz
    cases hR
    obtain rfl : h = 0 := by omega
    obtain rfl : l = 0 := by omega
    cases capped with
    | true => cases hr
    | false => exact ⟨E, σ, _, hleaf (v' := .nilS sz) rfl rfl (.nilS sz) (hnoref rfl), Grow.refl _ _ _, hr⟩
  case csl sz' es =>
    cases hsz
    obtain ⟨hI, a1, e⟩ := hR
    injection e with e1 e2 e3
    cases capped with
    | false => exact ⟨E, σ, _, hleaf (v' := .isl 0 sz _) rfl rfl (himm (cap' := 0) ⟨0, hI⟩ cap (by omega) (Nat.le_refl _)) (hnoref rfl), Grow.refl _ _ _, hr⟩
    | true => cases hr
  case fsl g sz' es =>
    cases hsz
    cases capped with
    | true => cases hr
    | false =>
      obtain ⟨a1, cap1, e, g1, g2, g3, g4, g5⟩ := hR
      injection e with e1 e2 e3
      subst e1 e2 e3
      have hw : View E.imm H sz es (.slice a0 es.length cap) a0 cap := ⟨rfl, g1, g2, g3, g5⟩
      obtain ⟨a', e1, hw', ha⟩ := hw.sliced h1 h2 (m := cap) (by omega) (Nat.le_refl _)
      refine ⟨E, σ, _, hleaf (v' := .isl 0 sz _) rfl rfl (isl_of_sub (es := es) (off := l) (len := h - l) (g := 0) (cap := cap) hw' ha ?_) (hnoref rfl), Grow.refl _ _ _, hr⟩
      intro ad i e j he hi hj
      subst he
      have hil := lt_of_getElem? hi
      obtain ⟨ad', arr, T, f, f1, f2, _⟩ := g4 (by omega)
      cases f1
      have he1 := (g5.1 e (List.mem_of_getElem? hi)).1
      simp only [Env.imm, f2]
      have : (i + 1) * sz ≤ es.length * sz := Nat.mul_le_mul_right _ hil
      rw [Nat.add_mul] at this; omega
  case xsl g sz' es =>
    cases hsz
    cases capped with
    | true => cases hr
    | false =>
      obtain ⟨E1, σ1, hC1, hG1, hr1⟩ := hgrab _ rfl hr
      have hx := (hand_rel (hs := []) (xs := []) hC1).2 0 _ _ rfl rfl
      obtain ⟨a1, cap1, e, g1, g2, g3, g4, g5⟩ := hx
      injection e with e1 e2 e3
      subst e1 e2 e3
      have hw : View E1.imm H sz es (.slice a0 es.length cap) a0 cap := ⟨rfl, g1, g2, g3, g5⟩
      obtain ⟨a', e1, hw', ha⟩ := hw.sliced h1 h2 (m := cap) (by omega) (Nat.le_refl _)
      refine ⟨E1, σ1, .xsl 0 sz ((es.drop l).take (h - l)), ⟨hC1.sl, hC1.tl, ?_⟩, hG1, hr1⟩
      have hC0 := hC1.core
      have hp := (Core.pop (v := .xsl g sz es) (x := .slice a0 es.length cap) (slots := σ1.slots) (vals := ts) hC0 (by rw [hC1.sl]; exact Nat.le_refl _))
      refine hp.push ⟨rfl, fun i u y hu hy => ?_⟩ (by intro r hr; simp [V.refs, V.leaves, V.refs1] at hr)
      have hw2 := hw'.le
      have hlen : ((es.drop l).take (h - l)).length = h - l := by simp; omega
      cases i with
      | succ i => simp [V.leaves] at hu
      | zero =>
        simp only [V.leaves, List.getElem?_cons_zero, Option.some.injEq] at hu
        simp only [Bool.false_eq_true, if_false] at hy ⊢
        rw [e1] at hy ⊢
        simp only [vleaves, List.getElem?_cons_zero, Option.some.injEq] at hy
        subst hu hy
        refine ⟨a', cap - l, by rw [hlen], by omega, hw'.nil, hw'.spot, fun hne => ?_, hw'.elems⟩
        obtain ⟨ad, b1, b2, b3⟩ := ha hne
        obtain ⟨ad', arr, T, f, f1, f2, f3, f4, f5⟩ := g4 (by omega)
        rw [b1] at f1; cases f1
        refine ⟨_, arr, T, f, b2, ?_, f3, ?_, f5⟩
        · rw [hC1.sl]; exact f2
        · simp only
          have h6 : l * sz + (cap - l) * sz = cap * sz := by rw [← Nat.add_mul]; congr 1; omega
          omega
  case srf hm g sz' off len' =>
    cases hsz
    obtain ⟨a1, c1, e, g1, g2, g3, g4⟩ := hR
    injection e with e1 e2 e3
    subst e1 e2 e3
    have hpush : ∀ m, h ≤ m → m ≤ cap → CoreS n E σ [.srf hm g sz (off + l) (h - l)] ts [sliced a0 l h m sz] H := by
      intro m h3 h4
      refine hleaf rfl rfl ⟨if m = l then a0 else a0.map (·.add (l * sz)), m - l, rfl, by omega, fun hn => ?_, fun ad hn hcz => ?_, fun hvl => ?_⟩ (fun r hr => by simp only [V.refs1, List.mem_singleton] at hr; exact hrf r (by simp [V.refs1, hr]))
      · split at hn
        · omega
        · cases a0 with
          | none => have := g2 rfl; omega
          | some ad => simp at hn
      · split at hn
        · omega
        · obtain ⟨ad0, h5, rfl⟩ := Option.map_eq_some_iff.1 hn
          rw [add_eq (g3 ad0 h5 (by omega))]
      · obtain ⟨b1, b2, b3, b4, b5⟩ := g4 hvl
        refine ⟨b1, b2, b3, b4, fun hne => ?_⟩
        obtain ⟨ad, d1, d2, d3⟩ := b5 (by omega)
        subst d2
        refine ⟨ad, d1, ?_, by omega⟩
        rw [if_neg (by omega)]
        simp only [Option.map_some, add_eq (ad := ⟨ad.block, ad.off + off * sz, none⟩) rfl]
        congr 2
        rw [Nat.add_mul]; omega
    cases capped with
    | false => exact ⟨E, σ, _, hpush cap (by omega) (Nat.le_refl _), Grow.refl _ _ _, hr⟩
    | true =>
      have hC1 := hpush h (Nat.le_refl _) (by omega)
      simp only [subV] at hr
      obtain ⟨E1, σ1, u', hC2, hG, _, hr2, hl', _, _⟩ := settle1_sound (base := base) (hs := []) (xs := []) (i := 0) (u := .srf hm g sz (off + l) (h - l)) hC1 rfl hr
      cases u' <;> first | (cases hr2; done) | skip
      rename_i g' sz2 es2 q0 q1
      have hR2 := (hand_rel (hs := []) (xs := []) hC2).2 0 (.isl g' sz2 es2) _ rfl rfl
      obtain ⟨a2, cap2, hw2, hi2⟩ := View.of_isl hR2
      have e2 := hw2.eq
      obtain ⟨a3, e3, _⟩ := sliced_addr (a := a0) (l := l) (h := h) (m := h) (s := sz)
      rw [e3] at e2
      injection e2 with f1 f2 f3
      have hp : CoreS n E1 σ1 [] ts [] H := CoreS.pop (hs := []) (xs := []) (v := .isl g' sz2 es2) hC2
      refine ⟨E1, σ1, .csl sz2 es2, hp.pushLeaf (h := .slot 0 0) rfl rfl ⟨?_, a3, ?_⟩ (by intro r hr; cases hr), hG, hr2⟩
      · exact isl_of_view hw2 hi2
      · simp only [if_true]; rw [e3, ← f2]
  case asl r len' =>
    cases hsz
    cases capped with
    | true => cases r <;> cases hr
    | false =>
      have hnil : ¬ l < len' → ∀ {ad : Addr}, ad.spot = none → a0 = some ad → len = len' → RelV E (σ.slots ++ []) σ.objs (ts ++ []) H (.slot s 0) (.isl 0 1 []) (sliced a0 l h cap 1) := by
        intro hn ad hs ha hl
        obtain ⟨a', e1, e2⟩ := sliced_addr (a := a0) (l := l) (h := h) (m := cap) (s := 1)
        rw [e1, show h - l = 0 by omega]
        refine isl_nil (fun h => ?_) (fun ad' h _ => ?_)
        · subst ha; rw [h] at e2; split at e2 <;> simp at e2
        · subst ha; rw [h] at e2
          split at e2
          · cases e2; exact hs
          · simp at e2; subst e2; rw [add_eq hs]
      cases r with
      | obj ob off =>
        obtain ⟨c, e, g1, g2⟩ := hR
        injection e with e1 e2 e3
        simp only [subV] at hr
        rw [Prog.run_ite] at hr
        split at hr
        · rename_i hlt
          refine ⟨E, σ, _, hleaf (v' := .asl (.obj ob (off + l)) (h - l)) rfl rfl ⟨cap - l, ?_, by omega, g2⟩ (hnoref rfl), Grow.refl _ _ _, hr⟩
          subst e1
          simp only [sliced, Bool.false_eq_true, if_false]
          rw [if_neg (by omega)]
          simp only [Option.map_some, add_eq (ad := ⟨E.addr ob, off, none⟩) rfl, Nat.mul_one]
        · rename_i hlt
          exact ⟨E, σ, _, hleaf rfl rfl (hnil hlt (ad := ⟨E.addr ob, off, none⟩) rfl e1 e2) (hnoref rfl), Grow.refl _ _ _, hr⟩
      | elem hm g sz i off =>
        obtain ⟨ad', c, e, g1, g2, g3⟩ := hR
        injection e with e1 e2 e3
        simp only [subV] at hr
        rw [Prog.run_ite] at hr
        split at hr
        · rename_i hlt
          refine ⟨E, σ, _, hleaf (v' := .asl (.elem hm g sz i (off + l)) (h - l)) rfl rfl ⟨ad'.add l, cap - l, ?_, by omega, by rw [add_eq g2], fun hvl => ?_⟩ (fun r hr => by simp only [V.refs1, List.mem_singleton] at hr; exact hrf r (by simp [V.refs1, hr])), Grow.refl _ _ _, hr⟩
          · subst e1
            simp only [sliced, Bool.false_eq_true, if_false]
            rw [if_neg (by omega)]
            simp only [Option.map_some, Nat.mul_one]
          · obtain ⟨ad, l0, c0, b1, b2⟩ := g3 hvl
            refine ⟨ad, l0, c0, b1, ?_⟩
            rw [add_eq g2, b2]
            simp only [Addr.mk.injEq, and_true, true_and]; omega
        · rename_i hlt
          exact ⟨E, σ, _, hleaf rfl rfl (hnil hlt g2 e1 e2) (hnoref rfl), Grow.refl _ _ _, hr⟩
end
end Go.Vq
namespace Go.Vq
section
variable {P : Program} {n base : Nat} {E E' : Env} {σ σ' : St} {hs : List V} {ts xs : List Value} {H H' : Array Go.Obj}
variable {callee : Callee} {o : Oper} {a : Act} {w : World} {next : Act → World → Prop} {Q : Exit → Act → World → Prop}
def OptIs (a : Act) (oo : Option Operand) (dflt m : Int) : Prop := (oo = none ∧ m = dflt) ∨ ∃ x kk, oo = some x ∧ a.eval x = .int kk m
theorem gOptInt_sound (hC : CoreS n E σ hs a.tmps.toList xs H) {oo : Option Operand} {o' : Option Opd} (ho : opdO oo = some o') {dflt : Int} {k : Int → Prog} (hr : (gOptInt o' dflt k).run σ = some σ') : ∃ m, (k m).run σ = some σ' ∧ OptIs a oo dflt m := by
  cases oo with
  | none => cases ho; exact ⟨dflt, hr, .inl ⟨rfl, rfl⟩⟩
  | some x =>
    obtain ⟨x', hx, rfl⟩ := Option.map_eq_some_iff.1 (show (opd0 x).map some = some o' from ho)
    obtain ⟨kk, m, hm, hr⟩ := gInt_sound hC (opd0_ok a hx) hr
    exact ⟨m, hr, .inr ⟨x, kk, rfl, hm⟩⟩
theorem bounds_run {isSlice : Bool} {len cap m : Nat} {lo hi mx : Option Operand} {l h : Int} (h0 : OptIs a lo 0 l) (h1 : OptIs a hi len h) (h2 : (mx = none ∧ m = cap) ∨ (hi ≠ none ∧ m = h.toNat ∧ ∃ x kk, mx = some x ∧ a.eval x = .int kk h))
    (g0 : 0 ≤ l) (g1 : l ≤ h) (g2 : h ≤ cap) : (Instr.sliceBounds isSlice len cap (lo.map a.eval) (hi.map a.eval) (mx.map a.eval)).run P w = .ok (l.toNat, h.toNat, m) w := by
  have e1 : ((h.toNat : Nat) : Int) = h := Int.toNat_of_nonneg (by omega)
  have hl0 : ∀ (kk : IntKind) (c : BoundsCode), (Instr.sliceBound (.int kk l) h.toNat c).run P w = .ok l.toNat w := fun kk c => run_sliceBound w kk l _ c g0 (by omega)
  have hh0 : ∀ (kk : IntKind) (c : BoundsCode), (Instr.sliceBound (.int kk h) cap c).run P w = .ok h.toNat w := fun kk c => run_sliceBound w kk h _ c (by omega) g2
  have hm0 : ∀ (kk : IntKind) (c : BoundsCode), (Instr.sliceBound (.int kk h) h.toNat c).run P w = .ok h.toNat w := fun kk c => run_sliceBound w kk h _ c (by omega) (by omega)
  rcases h2 with ⟨rfl, rfl⟩ | ⟨hne, rfl, xm, km, rfl, em⟩
  · rcases h1 with ⟨rfl, rfl⟩ | ⟨xh, kh, rfl, eh⟩
    · rcases h0 with ⟨rfl, rfl⟩ | ⟨xl, kl, rfl, el⟩
      · simp [Instr.sliceBounds]
      · have := hl0 kl .sliceB
        simp at this
        simp [Instr.sliceBounds, el, this]
    · rcases h0 with ⟨rfl, rfl⟩ | ⟨xl, kl, rfl, el⟩
      · simp [Instr.sliceBounds, eh, hh0]
      · simp [Instr.sliceBounds, eh, el, hh0, hl0]
  · rcases h1 with ⟨rfl, rfl⟩ | ⟨xh, kh, rfl, eh⟩
    · exact absurd rfl hne
    · rcases h0 with ⟨rfl, rfl⟩ | ⟨xl, kl, rfl, el⟩
      · simp [Instr.sliceBounds, eh, em, hh0, hm0]
      · simp [Instr.sliceBounds, eh, el, em, hh0, hm0, hl0]
theorem slice_le {slots : List V} {objs : List (Option Obj)} {vals : List Value} {h : Home} {v : V} {x : Value} {sz : Nat} (hR : RelV E slots objs vals H h v x) (hs : v.sz? = some sz) : ∃ a c, x = .slice a v.lenOf c ∧ v.lenOf ≤ c := by
  cases v <;> first | (simp [V.sz?] at hs; done) | skip
  case nilS => exact ⟨_, _, relV_toVal hR rfl, Nat.le_refl _⟩
  case isl => obtain ⟨a, cap, hw, _⟩ := View.of_isl hR; exact ⟨_, _, hw.eq, hw.le⟩
  case xsl => obtain ⟨a, cap, e, h, _⟩ := hR; exact ⟨_, _, e, h⟩
  case fsl => obtain ⟨a, cap, e, h, _⟩ := hR; exact ⟨_, _, e, h⟩
  case csl => obtain ⟨_, a, e⟩ := hR; exact ⟨_, _, e, Nat.le_refl _⟩
  case srf => obtain ⟨a, c, e, h, _⟩ := hR; exact ⟨_, _, e, h⟩
  case asl r len =>
    cases r with
    | obj => obtain ⟨c, e, h, _⟩ := hR; exact ⟨_, _, e, h⟩
    | elem => obtain ⟨ad, c, e, h, _⟩ := hR; exact ⟨_, _, e, h⟩
theorem op_sliceArr {t e : TypeId} {m : Nat} {x : Operand} {x' : Opd} {lo hi : Option Operand} {lo' hi' : Option Opd} (ho : o.op = .slice t x lo hi none) (ht : under P t = some (.array m e)) (hs : szOf P e = some 1) (hx : opd0 x = some x') (hlo : opdO lo = some lo') (hhi : opdO hi = some hi')
    (hC : CoreS n E σ [] a.tmps.toList [] w.heap)
    (hr : (opProg callee base o.dst (.slice (.arr m) x' lo' hi' none)).run σ = some σ') (K : NextOk n base E σ' a w next) : o.upon P a next Q ((execOp a.eval o).run P w) := by
  have hok := opd0_ok a hx
  replace hr := opd_rel (v := .nil) hC hok hr
  obtain ⟨v, hr, ⟨s, hS, hs'⟩, hrf, hq1, hq2⟩ := hr
  clear hq1 hq2 hs'
  have hrun : ∀ {ad : Addr} {l h : Int}, a.eval x = .pointer (some ad) → OptIs a lo 0 l → OptIs a hi m h → 0 ≤ l → l ≤ h → h ≤ m → (execOp a.eval o).run P w = .ok (.value (sliced (some ad) l.toNat h.toNat m 1)) w := by
    intro ad l h e1 h1 h2 g0 g1 g2
    have hb := bounds_run (P := P) (w := w) (isSlice := false) (len := m) (cap := m) (m := m) (mx := none) h1 h2 (.inl ⟨rfl, rfl⟩) g0 g1 g2
    simp only [Option.map_none] at hb
    simp only [execOp, ho, Instr.sliceAt, Sem.run_bind, run_under ht, Result.andThen_ok, e1, Instr.sureAddr, Sem.run_pure, Option.map_none, hb, run_size hs]
    simp only [sliced, Option.map_some]
    split <;> rfl
  have hfin : ∀ {ad : Addr} {r : Ref} {l h : Int}, a.eval x = .pointer (some ad) → OptIs a lo 0 l → OptIs a hi m h → 0 ≤ l → l ≤ h → h ≤ m → RelV E (σ.slots ++ []) σ.objs (a.tmps.toList ++ []) w.heap (.slot s 0) (.asl r m) (.slice (some ad) m m) →
      RefsOk n (σ.slots ++ []) σ.objs (V.refs1 (.asl r m)) → (subV o.dst x' (.asl r m) l.toNat h.toNat false).run σ = some σ' → o.upon P a next Q ((execOp a.eval o).run P w) := by
    intro ad r l h e1 h1 h2 g0 g1 g2 hR hf hr2
    obtain ⟨E1, σ1, v', c1, c2, c3⟩ := subV_sound (base := base) (sz := 1) hC hR rfl hf (fun k hk => by cases hk) (by omega) (by omega) hr2
    exact value_end c1 c2 (WSame.refl _) c3 K (hrun e1 h1 h2 g0 g1 g2)
  cases v <;> first | (cases hr; done) | skip
  case ptr r =>
    change (gThere r <| gOptInt lo' 0 fun l => gOptInt hi' m fun h => if 0 ≤ l ∧ l ≤ h ∧ h ≤ m ∧ (Option.none : Option Opd).isNone = true then subV o.dst x' (.asl r m) l.toNat h.toNat false else .fail).run σ = some σ' at hr
    obtain ⟨_, hR⟩ := rel_leaf hS rfl (fun g => by simp)
    cases r with
    | obj ob off =>
      obtain ⟨e, hl⟩ := hR
      simp only [gThere] at hr
      obtain ⟨l, hr, h1⟩ := gOptInt_sound hC hlo hr
      obtain ⟨h, hr, h2⟩ := gOptInt_sound hC hhi hr
      rw [Prog.run_ite] at hr
      split at hr
      · rename_i hc
        exact hfin (r := .obj ob off) e h1 h2 hc.1 hc.2.1 hc.2.2.1 ⟨m, rfl, Nat.le_refl _, hl⟩ (by intro r hr; cases hr) hr
      · cases hr
    | elem hm g sz i off =>
      simp only [gThere] at hr
      replace hr := gElems_run hr
      obtain ⟨u, own, es, hu, hk, hr⟩ := hr
      obtain ⟨l, hr, h1⟩ := gOptInt_sound hC hlo hr
      obtain ⟨h, hr, h2⟩ := gOptInt_sound hC hhi hr
      rw [Prog.run_ite] at hr
      split at hr
      · rename_i hc
        obtain ⟨ad', e, hv⟩ := hR
        have hvl : valid (σ.slots ++ []) σ.objs hm g sz := by
          obtain ⟨d4, _⟩ := ct_real' (n := n) (hs := []) hC.sl hu (by rcases hk with ⟨rfl, _⟩ | ⟨rfl | rfl, _⟩ <;> exact fun g => by simp)
          exact ⟨u, d4, by rcases hk with ⟨rfl, _⟩ | ⟨rfl | rfl, _⟩ <;> rfl⟩
        obtain ⟨ad, l0, c0, b1, b2⟩ := hv hvl
        subst b2
        exact hfin (r := .elem hm g sz i off) e h1 h2 hc.1 hc.2.1 hc.2.2.1 ⟨_, m, rfl, Nat.le_refl _, rfl, fun _ => ⟨ad, l0, c0, b1, rfl⟩⟩ (fun r hr => hrf r (by simpa [V.refs, V.leaves, V.refs1] using hr)) hr
      · cases hr
  case iptr cs =>
    change (gOptInt lo' 0 fun l => gOptInt hi' m fun h => if 0 ≤ l ∧ l ≤ h ∧ h ≤ m ∧ (Option.none : Option Opd).isNone = true ∧ m ≤ cs.length then putO o.dst (.isl 0 1 (((cs.take m).drop l.toNat).take (h.toNat - l.toNat))) .ret else .fail).run σ = some σ' at hr
    obtain ⟨_, hR⟩ := rel_leaf hS rfl (fun g => by simp)
    obtain ⟨ad, e, hsp, hcell⟩ := hR
    obtain ⟨l, hr, h1⟩ := gOptInt_sound hC hlo hr
    obtain ⟨h, hr, h2⟩ := gOptInt_sound hC hhi hr
    rw [Prog.run_ite] at hr
    split at hr
    · rename_i hc
      obtain ⟨g0, g1, g2, _, g3⟩ := hc
      have hlen : (cs.take m).length = m := by simp; omega
      have hw : View E.imm w.heap 1 (cs.take m) (.slice (some ad) m m) (some ad) m := by
        refine ⟨by rw [hlen], by rw [hlen]; exact Nat.le_refl _, fun h => (by cases h), fun ad' h _ => (by cases h; exact hsp), fun u hu => ?_, fun i u j v hu hv => ?_⟩
        · obtain ⟨i, hi⟩ := List.mem_iff_getElem?.1 hu
          have := lt_of_getElem? hi
          rw [List.getElem?_take_of_lt (by omega)] at hi
          obtain ⟨hl, _⟩ := hcell i u hi
          rw [elemOk, cells_leaf hl]; exact ⟨rfl, by simpa using hl⟩
        · have := lt_of_getElem? hu
          rw [List.getElem?_take_of_lt (by omega)] at hu
          obtain ⟨hl, y, q1, q2, q3⟩ := hcell i u hu
          rw [cells_leaf hl] at hv
          cases j with
          | succ j => simp at hv
          | zero => simp at hv; subst hv; exact ⟨ad, y, rfl, by simpa using q2, q3⟩
      obtain ⟨a', e1, hw', ha⟩ := hw.sliced (l := l.toNat) (h := h.toNat) (m := m) (by omega) (by omega) (by omega) (Nat.le_refl _)
      have hI := isl_of_sub (g := 0) (es := cs.take m) (off := l.toNat) (len := h.toNat - l.toNat) (cap := m) hw' ha (by
        intro ad' i u j q0 hu hj
        cases q0
        have := lt_of_getElem? hu
        rw [List.getElem?_take_of_lt (by omega)] at hu
        obtain ⟨hl, y, q1, q2, q3⟩ := hcell i u hu
        rw [cells_leaf hl] at hj
        have : j = 0 := by simpa using hj
        subst this; simpa using q1)
      exact value_end (hC.pushLeaf (h := .slot 0 0) (v := .isl 0 1 _) rfl rfl hI (by intro r hr; cases hr)) (Grow.refl _ _ _) (WSame.refl _) hr K (hrun e h1 h2 g0 g1 g2)
    · cases hr
theorem op_sliceSlc {t e : TypeId} {sz : Nat} {x : Operand} {x' : Opd} {lo hi mx : Option Operand} {lo' hi' mx' : Option Opd} (ho : o.op = .slice t x lo hi mx) (ht : under P t = some (.slice e)) (hs : szOf P e = some sz) (hx : opd P t x = some x') (hlo : opdO lo = some lo') (hhi : opdO hi = some hi') (hmx : opdO mx = some mx')
    (hmh : hi = none → mx = none) (hC : CoreS n E σ [] a.tmps.toList [] w.heap)
    (hr : (opProg callee base o.dst (.slice (.slc sz) x' lo' hi' mx')).run σ = some σ') (K : NextOk n base E σ' a w next) : o.upon P a next Q ((execOp a.eval o).run P w) := by
  have hok := opd_ok a hx
  replace hr := opd_rel (v := .nil) hC hok hr
  obtain ⟨v, hr, hv, hrf, hh1, hh2⟩ := hr
  have hr' : (if (!(TK.slc sz).fits v) = true then Prog.fail else lenV v fun n => gOptInt lo' 0 fun l => gOptInt hi' n fun h => if 0 ≤ l ∧ l ≤ h ∧ h ≤ n then match (generalizing := false) mx' with | none => subV o.dst x' v l.toNat h.toNat false | some m => gInt m fun m => if m = h then subV o.dst x' v l.toNat h.toNat true else .fail else .fail).run σ = some σ' := by
    cases v <;> exact hr
  clear hr
  rw [Prog.run_ite] at hr'
  split at hr'
  · cases hr'
  · rename_i hf
    simp only [Bool.not_eq_true', Bool.not_eq_false] at hf
    have hsz : v.sz? = some sz := by
      cases v <;> simpa [TK.fits] using hf
    obtain ⟨s, hS, hs'⟩ := hv
    have hl : v.leaf = true ∧ ∀ g, v ≠ .gone g := by
      cases v <;> first | (simp [V.sz?] at hsz; done) | exact ⟨rfl, fun g => by simp⟩
    replace hr' := lenV_rel hS hf hr'; obtain ⟨m, hr', hcase⟩ := hr'
    obtain ⟨_, hR⟩ := rel_leaf hS hl.1 hl.2
    replace hr' := gOptInt_sound hC hlo hr'; obtain ⟨l, hr', h1⟩ := hr'
    replace hr' := gOptInt_sound hC hhi hr'; obtain ⟨h, hr', h2⟩ := hr'
    rw [Prog.run_ite] at hr'
    split at hr'
    · rename_i hc
      obtain ⟨g0, g1, g2⟩ := hc
      obtain ⟨a0, cap, e, hle⟩ := slice_le hR hsz
      have hm : m = v.lenOf := by
        rcases hcase with ⟨h, _⟩ | ⟨_, _, a1, c1, e1⟩ | ⟨h, _⟩
        · cases h
        · rw [e] at e1; injection e1 with _ e2 _; exact e2.symm
        · cases h
      subst hm
      have hfin : ∀ capped, (capped = true → ∃ xm km, mx = some xm ∧ a.eval xm = .int km h) → (capped = false → mx = none) → (subV o.dst x' v l.toNat h.toNat capped).run σ = some σ' → o.upon P a next Q ((execOp a.eval o).run P w) := by
        intro capped hc1 hc2 hr2
        have hR' := hR
        rw [e] at hR'
        obtain ⟨E1, σ1, v', c1, c2, c3⟩ := subV_sound (base := base) (s := s) (x' := x') hC hR' hsz (fun r hr => hrf r (by rw [V.refs, leaves_leaf hl.1]; simpa using hr)) (fun k hk hr3 => by
          obtain ⟨E1, σ1, b1, b2, _, b4⟩ := grab_sound (base := base) hC ⟨s, hS, hs'⟩ hrf hh1 hh2 hok hr3
          rw [e] at b1
          exact ⟨E1, σ1, b1, b2, b4⟩) (show l.toNat ≤ h.toNat by omega) (by omega) hr2
        have hb : (Instr.sliceBounds true v.lenOf cap (lo.map a.eval) (hi.map a.eval) (mx.map a.eval)).run P w = .ok (l.toNat, h.toNat, if capped = true then h.toNat else cap) w := by
          refine bounds_run h1 h2 ?_ g0 g1 (by omega)
          cases capped with
          | false => exact .inl ⟨hc2 rfl, rfl⟩
          | true =>
            obtain ⟨xm, km, e1, e2⟩ := hc1 rfl
            exact .inr ⟨(fun hn => by have := hmh hn; rw [e1] at this; simp at this), rfl, xm, km, e1, e2⟩
        refine value_end c1 c2 (WSame.refl _) c3 K ?_
        simp only [execOp, ho, Instr.sliceAt, Sem.run_bind, run_under ht, Result.andThen_ok, e, Instr.slice, hb, run_size hs, Sem.run_pure, sliced]
      split at hr'
      · refine hfin false (fun h => by cases h) (fun _ => ?_) hr'
        cases mx with
        | none => rfl
        | some xm => obtain ⟨y, hy, e⟩ := Option.map_eq_some_iff.1 (show (opd0 xm).map some = some none from hmx); cases e
      · rename_i m'
        cases mx with
        | none => cases hmx
        | some xm =>
          obtain ⟨y, hy, e⟩ := Option.map_eq_some_iff.1 (show (opd0 xm).map some = some (some m') from hmx)
          cases e
          replace hr' := gInt_sound hC (opd0_ok a hy) hr'
          obtain ⟨km, mm, e1, hr'⟩ := hr'
          rw [Prog.run_ite] at hr'
          split at hr'
          · rename_i hmm
            subst hmm
            exact hfin true (fun _ => ⟨xm, km, rfl, e1⟩) (fun h => by cases h) hr'
          · cases hr'
    · cases hr'
theorem op_sliceStr {t : TypeId} {x : Operand} {x' : Opd} {lo hi : Option Operand} {lo' hi' : Option Opd} (ho : o.op = .slice t x lo hi none) (ht : under P t = some .string) (hx : opd P t x = some x') (hlo : opdO lo = some lo') (hhi : opdO hi = some hi')
    (hC : CoreS n E σ [] a.tmps.toList [] w.heap)
    (hr : (opProg callee base o.dst (.slice .str x' lo' hi' none)).run σ = some σ') (K : NextOk n base E σ' a w next) : o.upon P a next Q ((execOp a.eval o).run P w) := by
  have hok := opd_ok a hx
  replace hr := opd_rel (v := .nil) hC hok hr
  obtain ⟨v, hr, ⟨s, hS, hs'⟩, hrf, hq1, hq2⟩ := hr
  clear hq1 hq2 hs'
  have hr' : (if (!TK.str.fits v) = true then Prog.fail else lenV v fun n => gOptInt lo' 0 fun l => gOptInt hi' n fun h => if 0 ≤ l ∧ l ≤ h ∧ h ≤ n then subV o.dst x' v l.toNat h.toNat false else .fail).run σ = some σ' := by
    cases v <;> exact hr
  clear hr
  rw [Prog.run_ite] at hr'
  split at hr'
  · cases hr'
  · rename_i hf
    cases v <;> first | (simp [TK.fits] at hf; done) | skip
    rename_i b
    have e := slot_toVal (y := .string ⟨b.toArray⟩) hS rfl
    simp only [lenV] at hr'
    replace hr' := gOptInt_sound hC hlo hr'; obtain ⟨l, hr', h1⟩ := hr'
    replace hr' := gOptInt_sound hC hhi hr'; obtain ⟨h, hr', h2⟩ := hr'
    rw [Prog.run_ite] at hr'
    split at hr'
    · rename_i hc
      obtain ⟨g0, g1, g2⟩ := hc
      refine plain_end hC (y := .string ⟨((b.drop l.toNat).take (h.toNat - l.toNat)).toArray⟩) rfl hr' K ?_
      have hb : (Instr.sliceBounds false b.length b.length (lo.map a.eval) (hi.map a.eval) none).run P w = .ok (l.toNat, h.toNat, b.length) w := by
        have := bounds_run (P := P) (w := w) (isSlice := false) (mx := none) h1 h2 (.inl ⟨rfl, rfl⟩) g0 g1 (show h ≤ (b.length : Int) from g2)
        simpa using this
      have hsz : (⟨b.toArray⟩ : ByteArray).size = b.length := size_mk b
      simp only [execOp, ho, Instr.sliceAt, Sem.run_bind, run_under ht, Result.andThen_ok, e, Instr.slice, Option.map_none, hsz, hb, Sem.run_pure, ByteArray.extract_mk]
      simp [hb, ByteArray.extract_mk]
    · cases hr'
end
end Go.Vq
namespace Go.Vq
section
variable {n : Nat} {E E' : Env} {slots : List V} {objs : List (Option Obj)} {vals : List Value} {H H' : Array Go.Obj}
theorem Core.change (hC : Core n E slots objs vals H) (ca : E'.addr = E.addr) (c1 : ∀ b i, E.imm b i → E'.imm b i ∧ cellAt H' b i = cellAt H b i)
    (ck : ∀ b t, E.tag b = t → ((∃ o, t = .obj o) ∨ ∃ h, (t = .home h ∨ ∃ m, t = .tail h m) ∧ ∀ s i, h = .slot s i → s < slots.length) → E'.tag b = t ∧ H'[b]? = H[b]?)
    (cf : ∀ b, H'.size ≤ b → E'.tag b = .other) : Core n E' slots objs vals H' := by
  have hk : HomesKept n E slots objs vals H E' slots objs vals H' := by
    intro h u _ hu _
    refine ⟨u, hu, Nat.le_refl _, .inl ⟨rfl, ?_⟩⟩
    cases h with
    | slot s i => rfl
    | obj o' i =>
      simp only [ct] at hu
      split at hu
      · rename_i cs' ho'
        obtain ⟨arr', T', f', h1, h2, _⟩ := hC.obj o' cs' ho'
        have := (ck _ _ h2 (.inl ⟨_, rfl⟩)).2
        simp only [hd, ca, cellAt, this]
      · cases hu
  refine ⟨hC.len, hC.real, fun s u y hs hy => ⟨(hC.slot s u y hs hy).1, fun i w z hw hz => ?_⟩, fun o cs ho => ?_, cf, fun s u hs r hr => ?_⟩
  · have hslt := lt_of_getElem? hs
    exact hC.leaf hk c1 ca hs hy hw hz (fun _ b hb => ck b _ hb (.inr ⟨_, .inl rfl, fun s' i' e => by cases e; exact hslt⟩)) (fun _ b m hb => ck b _ hb (.inr ⟨_, .inr ⟨m, rfl⟩, fun s' i' e => by cases e; exact hslt⟩))
  · exact hC.objKept c1 ca ho (fun h => ck _ _ h (.inl ⟨_, rfl⟩)) (fun _ _ _ _ b hb => ck b _ hb (.inr ⟨_, .inl rfl, fun s' i' e => by cases e⟩)) (fun _ _ _ _ b m hb => ck b _ hb (.inr ⟨_, .inr ⟨m, rfl⟩, fun s' i' e => by cases e⟩))
  · have := hC.refs s u hs r hr
    exact ⟨this.1, hk.bound this⟩
end
section
variable {P : Program} {n base : Nat} {E E' : Env} {σ σ' : St} {hs : List V} {ts xs : List Value} {H H' : Array Go.Obj}
variable {callee : Callee} {o : Oper} {a : Act} {w : World} {next : Act → World → Prop} {Q : Exit → Act → World → Prop}
structure Src (P : Program) (imm : Nat → Nat → Prop) (H : Array Go.Obj) (sz : Nat) (es : List V) (x : Value) (news : List Value) : Prop where
  len : ∀ w : World, (Builtin.lenOf x).run P w = .ok es.length w
  cells : ∀ (w : World) (m : Nat), w.heap = H → m ≤ es.length → (Builtin.firstCells sz m x).run P w = .ok (news.take (m * sz)).toArray w
  row : RowRel imm H sz es news.toArray
  size : news.length = es.length * sz
  leaf : ∀ y ∈ news, leafX y = true
theorem cellsAt_take (H : Array Go.Obj) (ad : Addr) (m k : Nat) (h : k ≤ m) : (cellsAt H ad m).take k = cellsAt H ad k := by
  simp only [cellsAt, ← List.map_take, List.take_range, Nat.min_eq_left h]
theorem View.src {imm : Nat → Nat → Prop} {sz cap : Nat} {es : List V} {x : Value} {a : Option Addr} (hw : View imm H sz es x a cap) (P : Program) : ∃ news, Src P imm H sz es x news := by
  have he := hw.eq
  cases a with
  | none =>
    have h0 : es = [] := by
      have := hw.nil rfl
      have := hw.le
      exact List.eq_nil_of_length_eq_zero (by omega)
    subst h0
    refine ⟨[], ⟨fun w => by rw [he]; simp [Builtin.lenOf], fun w m hH hm => ?_, ⟨fun e h => by simp at h, fun i e j v h => by simp at h⟩, by simp, fun y h => by simp at h⟩⟩
    rw [he]; simp [Builtin.firstCells]
  | some ad =>
    let w0 : World := { (default : World) with heap := H }
    have hrel := (View.load (P := P) (w := w0) (m := es.length) hw (Nat.le_refl _)).2
    refine ⟨cellsAt H ad (es.length * sz), ⟨fun w => by rw [he]; simp [Builtin.lenOf], fun w m hH hm => ?_, ⟨hw.elems.1, fun i e j v h1 h2 => ?_⟩, cellsAt_len _ _ _, fun y hy => ?_⟩⟩
    · subst hH
      have := (View.load (P := P) hw hm).1
      rw [he]
      simp only [Builtin.firstCells]
      rw [this, cellsAt_take _ _ _ _ (Nat.mul_le_mul_right _ hm)]
    · obtain ⟨y, e1, e2⟩ := hrel i e j v (lt_of_getElem? h1) h1 h2
      exact ⟨y, by simpa using e1, e2⟩
    · obtain ⟨k, hk⟩ := List.mem_iff_getElem?.1 hy
      have hlt := lt_of_getElem? hk
      rw [cellsAt_len] at hlt
      have hz : 0 < sz := by
        rcases Nat.eq_zero_or_pos sz with h | h
        · subst h; simp at hlt
        · exact h
      have h1 : k / sz < es.length := Nat.div_lt_of_lt_mul (by rw [Nat.mul_comm]; exact hlt)
      obtain ⟨e, hee⟩ := exists_getElem? (l := es) (i := k / sz) h1
      have hok := hw.elems.1 e (List.mem_of_getElem? hee)
      obtain ⟨v, hv⟩ := exists_getElem? (l := e.cells) (i := k % sz) (by rw [hok.1]; exact Nat.mod_lt _ hz)
      obtain ⟨y', e1, e2⟩ := hrel _ e _ v h1 hee hv
      rw [Nat.div_add_mod', show w0.heap = H from rfl, hk] at e1
      cases e1
      exact relI_leafX e2 (hok.2 v (List.mem_of_getElem? hv))
theorem str_src {imm : Nat → Nat → Prop} (P : Program) (H : Array Go.Obj) (b : List UInt8) : Src P imm H 1 (bytesV b) (.string ⟨b.toArray⟩) (b.map fun c => .int .u8 c.toNat) := by
  have hsz : (⟨b.toArray⟩ : ByteArray).size = b.length := size_mk b
  refine ⟨fun w => by simp [Builtin.lenOf, hsz, bytesV], fun w m hH hm => ?_, ?_, by simp [bytesV], fun y hy => ?_⟩
  · simp only [Builtin.firstCells, ByteArray.extract_mk, Sem.run_pure, Nat.mul_one]
    congr 1
    simp [List.map_take]
  · have := bytes_row (imm := imm) (H := H) b []
    simpa using this
  · obtain ⟨c, _, rfl⟩ := List.mem_map.1 hy
    rfl
theorem Src.mono {imm imm' : Nat → Nat → Prop} {sz : Nat} {es : List V} {x : Value} {news : List Value} (h : Src P imm H sz es x news) (hm : ∀ b i, imm b i → imm' b i ∧ cellAt H b i = cellAt H b i) : Src P imm' H sz es x news :=
  ⟨h.len, h.cells, h.row.mono hm, h.size, h.leaf⟩
theorem RowRel.append {imm : Nat → Nat → Prop} {sz : Nat} {es fs : List V} {l1 l2 l3 : List Value} (h1 : RowRel imm H sz es l1.toArray) (h2 : RowRel imm H sz fs l2.toArray) (hl1 : l1.length = es.length * sz) (hl2 : l2.length = fs.length * sz) :
    RowRel imm H sz (es ++ fs) (l1 ++ l2 ++ l3).toArray := by
  refine ⟨fun e he => (List.mem_append.1 he).elim (h1.ok e) (h2.ok e), fun i e j v hi hj => ?_⟩
  have hrow : ∀ k m, k < m → k * sz + sz ≤ m * sz := by
    intro k m hk
    have := Nat.mul_le_mul_right sz hk
    rw [Nat.succ_mul] at this; exact this
  rcases Nat.lt_or_ge i es.length with hlt | hge
  · rw [List.getElem?_append_left hlt] at hi
    obtain ⟨x, e1, e2⟩ := h1.cell i e j v hi hj
    have := (lt_of_getElem? hj)
    rw [(h1.ok e (List.mem_of_getElem? hi)).1] at this
    have := hrow i _ hlt
    refine ⟨x, ?_, e2⟩
    rw [List.getElem?_toArray] at e1 ⊢
    rw [List.append_assoc, List.getElem?_append_left (by omega)]; exact e1
  · rw [List.getElem?_append_right hge] at hi
    obtain ⟨x, e1, e2⟩ := h2.cell _ e j v hi hj
    have hlt := lt_of_getElem? hi
    have := (lt_of_getElem? hj)
    rw [(h2.ok e (List.mem_of_getElem? hi)).1] at this
    have := hrow _ _ hlt
    refine ⟨x, ?_, e2⟩
    rw [List.getElem?_toArray] at e1 ⊢
    have h3 : i * sz = es.length * sz + (i - es.length) * sz := by rw [← Nat.add_mul]; congr 1; omega
    rw [List.append_assoc, List.getElem?_append_right (by omega), List.getElem?_append_left (by omega), ← e1]
    congr 1; omega
theorem notInt {d : TypeDesc} (h : ∀ k, d ≠ .int k) : Go.Builtin.append_.match_1 (fun _ => Bool) d (fun _ => true) (fun _ => false) = false := by
  cases d <;> first | rfl | exact absurd rfl (h _)
theorem append_room {t u e : TypeId} {ty : TypeId} {d : TypeDesc} {sz len cap : Nat} {xs : List V} {x : Value} {news : List Value} {imm : Nat → Nat → Prop} {base0 : Option Addr} (ht : under P t = some (.slice e)) (hu : under P u = some d) (hd' : ∀ k, d ≠ .int k) (hs : szOf P e = some sz)
    (hx : Src P imm w.heap sz xs x news) (hroom : len + xs.length ≤ cap) {w' : World} (hst : ∀ ad, base0 = some ad → (storeCells (ad.add (len * sz)) news).run P w = .ok () w') (hno : base0 = none → w' = w) :
    (Builtin.append_ #[t, u] ty #[.slice base0 len cap, x]).run P w = .ok (.slice base0 (len + xs.length) cap) w' := by
  have hf := hx.cells w xs.length rfl (Nat.le_refl _)
  rw [← hx.size, List.take_length] at hf
  cases base0 with
  | none =>
    have := hno rfl
    subst this
    simp [Builtin.append_, run_under ht, run_under hu, run_size hs, hx.len, hroom, hf, notInt hd']
  | some ad =>
    have h1 := hst ad rfl
    simp [Builtin.append_, run_under ht, run_under hu, run_size hs, hx.len, hroom, hf, h1, notInt hd']
theorem append_grow {t u e : TypeId} {ty : TypeId} {d : TypeDesc} {sz bytes len cap : Nat} {es xs : List V} {x : Value} {olds news : List Value} {imm imm2 : Nat → Nat → Prop} {base0 : Option Addr} {zs : List V} (ht : under P t = some (.slice e)) (hu : under P u = some d) (hd' : ∀ k, d ≠ .int k) (hs : szOf P e = some sz) (hb : bytesOf P e = some bytes)
    (hz : zeroOf P e = some zs) (hx : Src P imm w.heap sz xs x news) (ho : Src P imm2 w.heap sz es (.slice base0 len cap) olds) (hlen : len = es.length) (hroom : cap < len + xs.length) (hb0 : bytes ≠ 0) (hbig : (len + xs.length) * bytes ≤ 140737488355328) :
    ∃ inf z, P.info? e = some inf ∧ inf.zero = some z ∧ z.cells.size = zs.length ∧
    (Builtin.append_ #[t, u] ty #[.slice base0 len cap, x]).run P w = .ok (.slice (some ⟨w.heap.size, 0, none⟩) (len + xs.length) (grownCap w (len + xs.length) cap e))
      { w.drew with heap := w.heap.push (.cells (olds ++ news ++ (Builtin.zeroCells z.cells (grownCap w (len + xs.length) cap e - (len + xs.length))).toList).toArray e (0, 0)) } := by
  obtain ⟨inf, z, hi, hz1, h1, h2⟩ := zeroOf_ok hz
  have hinf : inf.size = sz := by simp only [szOf, hi, Option.map_some, Option.some.injEq] at hs; exact hs
  have hby : inf.bytes = bytes := by simp only [bytesOf, hi, Option.map_some, Option.some.injEq] at hb; exact hb
  refine ⟨inf, z, hi, hz1, h1.symm, ?_⟩
  subst hlen
  have hf := hx.cells w.drew xs.length rfl (Nat.le_refl _)
  rw [← hx.size, List.take_length] at hf
  have hfo := ho.cells w.drew es.length rfl (Nat.le_refl _)
  rw [← ho.size, List.take_length] at hfo
  have hn : ¬ (es.length + xs.length ≤ cap) := by omega
  have hfit := growslice_fits hroom hbig
  have h48 : ¬ (281474976710656 < Builtin.nextslicecap (es.length + xs.length) cap * bytes) := by omega
  have hq : (Question.appendCap (es.length + xs.length) cap e).cut (w.tape w.drawn (Question.appendCap (es.length + xs.length) cap e)) = grownCap w (es.length + xs.length) cap e := rfl
  simp [Builtin.append_, run_under ht, run_under hu, run_size hs, typeInfo, zeroValue, hi, hz1, hby, hb0, hx.len, hn, h48, Question.forced, hf, hfo, Go.newRow, hq, notInt hd']
  have e1 : ∀ Z : Array Value, olds.toArray ++ (news.toArray ++ Z) = (olds ++ (news ++ Z.toList)).toArray := fun Z => by apply Array.ext'; simp
  rw [e1]; rfl
end
end Go.Vq
namespace Go.Vq
section
variable {P : Program} {n base : Nat} {E E' : Env} {σ σ' : St} {hs : List V} {ts xs : List Value} {H H' : Array Go.Obj}
variable {callee : Callee} {o : Oper} {a : Act} {w : World} {next : Act → World → Prop} {Q : Exit → Act → World → Prop}
def ownV (tail : Bool) (g sz : Nat) (es : List V) : V := if tail then .fsl g sz es else .xsl g sz es
def ownTag (tail : Bool) (h : Home) (m : Nat) : Tag := if tail then .tail h m else .home h
theorem ownV_leaf (tail : Bool) (g sz : Nat) (es : List V) : (ownV tail g sz es).leaf = true ∧ (ownV tail g sz es).refs1 = [] ∧ (ownV tail g sz es).leaves = [ownV tail g sz es] := by cases tail <;> exact ⟨rfl, rfl, rfl⟩
structure OwnRel (tail : Bool) (E : Env) (H : Array Go.Obj) (h : Home) (sz : Nat) (es : List V) (a : Option Addr) (cap : Nat) : Prop where
  le : es.length ≤ cap
  nil : a = none → cap = 0
  spot : ∀ ad, a = some ad → cap ≠ 0 → ad.spot = none
  block : cap ≠ 0 → ∃ ad arr T f, a = some ad ∧ E.tag ad.block = ownTag tail h (ad.off + es.length * sz) ∧ H[ad.block]? = some (.cells arr T f) ∧ ad.off + cap * sz ≤ arr.size ∧ open_ f arr.size
  elems : Elems E.imm H a sz es
theorem ownV_rel {tail : Bool} {slots : List V} {objs : List (Option Obj)} {vals : List Value} {h : Home} {g sz : Nat} {es : List V} {x : Value} : RelV E slots objs vals H h (ownV tail g sz es) x ↔ ∃ a cap, x = .slice a es.length cap ∧ OwnRel tail E H h sz es a cap := by
  cases tail
  · exact ⟨fun ⟨a, cap, e, h1, h2, h3, h4, h5⟩ => ⟨a, cap, e, h1, h2, h3, h4, h5⟩, fun ⟨a, cap, e, h⟩ => ⟨a, cap, e, h.le, h.nil, h.spot, h.block, h.elems⟩⟩
  · exact ⟨fun ⟨a, cap, e, h1, h2, h3, h4, h5⟩ => ⟨a, cap, e, h1, h2, h3, h4, h5⟩, fun ⟨a, cap, e, h⟩ => ⟨a, cap, e, h.le, h.nil, h.spot, h.block, h.elems⟩⟩
theorem CoreS.pushOwn (hC : CoreS n E σ [] ts [] H) {tail : Bool} {g sz : Nat} {es : List V} {a : Option Addr} {cap : Nat} (h : OwnRel tail E H (.slot n 0) sz es a cap) : CoreS n E σ [ownV tail g sz es] ts [.slice a es.length cap] H := by
  refine ⟨hC.sl, hC.tl, ?_⟩
  have h0 := hC.core
  simp only [List.append_nil] at h0
  obtain ⟨l1, l2, l3⟩ := ownV_leaf tail g sz es
  refine h0.push ⟨shape_leaf l1 rfl, fun i u y hu hy => ?_⟩ (by intro r hr; rw [V.refs, l3] at hr; simp [l2] at hr)
  rw [l3] at hu
  cases i with
  | succ i => simp at hu
  | zero =>
    simp only [vleaves, List.getElem?_cons_zero, Option.some.injEq] at hu hy
    subst hu hy
    rw [hC.sl]
    exact ownV_rel.2 ⟨a, cap, rfl, h⟩
theorem CoreS.popOwn {v : V} {x : Value} (hC : CoreS n E σ [v] ts [x] H) : CoreS n E σ [] ts [] H := CoreS.pop (hs := []) (xs := []) hC
theorem CoreS.changeHand (hC : CoreS n E σ [] ts [] H) {b : Nat} {x : Go.Obj} {τ : Tag} {tail : Bool} {m : Nat} (ht : E.tag b = ownTag tail (.slot n 0) m) (hb : b < H.size) (c1 : ∀ i, E.imm b i → (E.setTag b τ).imm b i ∧ cellAt (H.setIfInBounds b x) b i = cellAt H b i) :
    CoreS n (E.setTag b τ) σ [] ts [] (H.setIfInBounds b x) ∧ Grow base E H (E.setTag b τ) (H.setIfInBounds b x) := by
  have c1' : ∀ b' i, E.imm b' i → (E.setTag b τ).imm b' i ∧ cellAt (H.setIfInBounds b x) b' i = cellAt H b' i := by
    intro b' i hi
    by_cases he : b' = b
    · subst he; exact c1 i hi
    · exact ⟨by simp only [Env.imm, setTag_ne _ _ he]; exact hi, by simp only [cellAt, set_old he]⟩
  have hne : ∀ b', (∀ h m, E.tag b' ≠ .home h ∧ E.tag b' ≠ .tail h m) → b' ≠ b := by
    rintro b' h rfl
    cases tail
    · exact (h (.slot n 0) 0).1 ht
    · exact (h (.slot n 0) m).2 ht
  refine ⟨⟨hC.sl, hC.tl, ?_⟩, ⟨by simp, c1', fun b' hb' ho => ?_, fun b' hi => ?_, fun b' m' hi => ?_, fun _ _ => rfl⟩⟩
  · have h0 := hC.core
    simp only [List.append_nil] at h0 ⊢
    refine h0.change rfl c1' (fun b' t hbt hcase => ?_) (fun b' hb' => ?_)
    · have : b' ≠ b := by
        rintro rfl
        rw [ht] at hbt
        subst hbt
        rcases hcase with ⟨o, e⟩ | ⟨h, he, hs⟩
        · cases tail <;> simp [ownTag] at e
        · have : h = .slot n 0 := by
            rcases he with e | ⟨m', e⟩ <;> cases tail <;> simp [ownTag] at e
            · exact e.symm
            · exact e.1.symm
          have := hs n 0 this
          rw [hC.sl] at this; omega
      exact ⟨by rw [setTag_ne _ _ this]; exact hbt, set_old this⟩
    · have : b' ≠ b := by simp at hb'; omega
      rw [setTag_ne _ _ this]; exact h0.fresh b' (by simpa using hb')
  · have := hne b' (by rw [ho]; simp)
    exact ⟨by rw [setTag_ne _ _ this]; exact ho, set_old this⟩
  · have := hne b' (by rw [hi]; simp)
    exact ⟨by rw [setTag_ne _ _ this]; exact hi, set_old this⟩
  · have := hne b' (by rw [hi]; simp)
    exact ⟨by rw [setTag_ne _ _ this]; exact hi, set_old this⟩
theorem setTag_self {b : Nat} {t : Tag} (h : E.tag b = t) : E.setTag b t = E := by
  cases E
  simp only [Env.setTag, Env.mk.injEq, and_true]
  funext b'
  split
  · rename_i e; subst e; exact h.symm
  · rfl
theorem elems_behind {imm imm' : Nat → Nat → Prop} {ad : Addr} {sz : Nat} {es fs : List V} {arr : Array Value} {T : TypeId} {f : Nat × Nat} {news : List Value} (hel : Elems imm H (some ad) sz es) (hb : H[ad.block]? = some (.cells arr T f))
    (hR : RowRel imm H sz fs news.toArray) (hn : news.length = fs.length * sz) (hfit : ad.off + es.length * sz + news.length ≤ arr.size)
    (hm : ∀ b i, imm b i → imm' b i ∧ cellAt (H.setIfInBounds ad.block (.cells (setsA arr (ad.off + es.length * sz) news) T f)) b i = cellAt H b i) :
    Elems imm' (H.setIfInBounds ad.block (.cells (setsA arr (ad.off + es.length * sz) news) T f)) (some ad) sz (es ++ fs) := by
  have hrow : ∀ k m, k < m → k * sz + sz ≤ m * sz := by
    intro k m hk
    have := Nat.mul_le_mul_right sz hk
    rw [Nat.succ_mul] at this; exact this
  have hlt := lt_of_getElem?' hb
  have hcell : ∀ i, cellAt (H.setIfInBounds ad.block (.cells (setsA arr (ad.off + es.length * sz) news) T f)) ad.block i = (setsA arr (ad.off + es.length * sz) news)[i]? := by
    intro i; simp only [cellAt, Array.getElem?_setIfInBounds_self_of_lt hlt]
  refine ⟨fun e he => (List.mem_append.1 he).elim (hel.1 e) (hR.ok e), fun i e j v hi hj => ?_⟩
  have hjl := lt_of_getElem? hj
  rcases Nat.lt_or_ge i es.length with hil | hge
  · rw [List.getElem?_append_left hil] at hi
    obtain ⟨ad', x, e1, e2, e3⟩ := hel.2 i e j v hi hj
    cases e1
    rw [(hel.1 e (List.mem_of_getElem? hi)).1] at hjl
    have := hrow i _ hil
    refine ⟨ad, x, rfl, ?_, e3.mono hm⟩
    rw [hcell, setsA_get _ _ _ _ hfit, if_neg (by omega)]
    simp only [cellAt, hb] at e2; exact e2
  · rw [List.getElem?_append_right hge] at hi
    obtain ⟨x, e1, e2⟩ := hR.cell _ e j v hi hj
    have hil := lt_of_getElem? hi
    rw [(hR.ok e (List.mem_of_getElem? hi)).1] at hjl
    have := hrow _ _ hil
    have h3 : i * sz = es.length * sz + (i - es.length) * sz := by rw [← Nat.add_mul]; congr 1; omega
    refine ⟨ad, x, rfl, ?_, e2.mono hm⟩
    rw [hcell, setsA_get _ _ _ _ hfit, if_pos (by omega)]
    rw [List.getElem?_toArray] at e1
    rw [← e1]; congr 1; omega
theorem CoreS.newOwn (hC : CoreS n E σ [] ts [] H) {tail : Bool} {g sz cap : Nat} {es : List V} {arr : Array Value} {T : TypeId} {f : Nat × Nat} (hcap : es.length ≤ cap) (hfit : cap * sz ≤ arr.size) (hf : open_ f arr.size) (hR : RowRel E.imm H sz es arr) :
    ∃ E', CoreS n E' σ [ownV tail g sz es] ts [.slice (some ⟨H.size, 0, none⟩) es.length cap] (H.push (.cells arr T f)) ∧ Grow base E H E' (H.push (.cells arr T f)) := by
  have hG := Grow.newBlock (base := base) (E := E) (H := H) (τ := ownTag tail (.slot n 0) (0 + es.length * sz)) (x := .cells arr T f) hC.core.fresh
  refine ⟨E.setTag H.size (ownTag tail (.slot n 0) (0 + es.length * sz)), CoreS.pushOwn ⟨hC.sl, hC.tl, ?_⟩ ?_, hG⟩
  · have h0 := hC.core
    simp only [List.append_nil] at h0 ⊢
    exact h0.addBlock _ _
  · have hR' := hR.mono hG.imm
    refine ⟨hcap, fun h => (by cases h), fun ad h _ => (by cases h; rfl), fun _ => ⟨_, arr, T, f, rfl, setTag_same _ _ _, by simp, by simpa using hfit, hf⟩, hR'.ok, fun i e j v h1 h2 => ?_⟩
    obtain ⟨x, e1, e2⟩ := hR'.cell i e j v h1 h2
    exact ⟨_, x, rfl, by rw [cellAt_pushed]; simpa using e1, e2⟩
structure AppT (P : Program) (t u e : TypeId) (sz bytes : Nat) : Prop where
  ht : under P t = some (.slice e)
  hu : ∃ d, under P u = some d ∧ ∀ k, d ≠ .int k
  hs : szOf P e = some sz
  hb : bytesOf P e = some bytes
  hz : ∃ zs, zeroOf P e = some zs ∧ zs.length = sz
  sz0 : sz ≠ 0
  b0 : bytes ≠ 0
theorem append_fresh {t u e ty : TypeId} {sz bytes cap : Nat} {es fs : List V} {x : Value} {olds news : List Value} {base0 : Option Addr} (hT : AppT P t u e sz bytes) (hC : CoreS n E σ [] ts [] w.heap) (hx : Src P E.imm w.heap sz fs x news) (ho : Src P E.imm w.heap sz es (.slice base0 es.length cap) olds)
    (hroom : cap < es.length + fs.length) (hbig : (es.length + fs.length) * bytes ≤ 140737488355328) (tail : Bool) :
    ∃ E1 w1 y, (Builtin.append_ #[t, u] ty #[.slice base0 es.length cap, x]).run P w = .ok y w1 ∧ CoreS n E1 σ [ownV tail 0 sz (es ++ fs)] ts [y] w1.heap ∧ Grow base E w.heap E1 w1.heap ∧ WSame w w1 := by
  obtain ⟨d, hu, hd'⟩ := hT.hu
  obtain ⟨zs, hz, hzl⟩ := hT.hz
  obtain ⟨inf, z, hi, hz1, hzs, hrun⟩ := append_grow (ty := ty) hT.ht hu hd' hT.hs hT.hb hz hx ho rfl hroom hT.b0 hbig
  have hge := grownCap_ge w (es.length + fs.length) cap e
  have hR := ho.row.append (l3 := (Builtin.zeroCells z.cells (grownCap w (es.length + fs.length) cap e - (es.length + fs.length))).toList) hx.row ho.size hx.size
  obtain ⟨E', h1, h2⟩ := hC.newOwn (base := base) (tail := tail) (g := 0) (cap := grownCap w (es.length + fs.length) cap e) (T := e) (f := (0, 0)) (by simpa using hge) (by
    simp only [List.size_toArray, List.length_append, ho.size, hx.size, Array.length_toList, size_zeroCells, hzs, hzl, ← Nat.add_mul]
    exact Nat.mul_le_mul_right _ (by omega)) (open_00 _) hR
  refine ⟨E', _, _, hrun, ?_, h2, ⟨rfl, rfl, rfl⟩⟩
  rw [List.length_append] at h1
  exact h1
theorem append_own {t u e ty : TypeId} {sz bytes cap : Nat} {es fs : List V} {x : Value} {news : List Value} {base0 : Option Addr} {tail : Bool} {g : Nat} (hT : AppT P t u e sz bytes) (hC : CoreS n E σ [ownV tail g sz es] ts [.slice base0 es.length cap] w.heap) (hx : Src P E.imm w.heap sz fs x news)
    (hbig : (es.length + fs.length) * bytes ≤ 140737488355328) :
    ∃ E1 w1 y, (Builtin.append_ #[t, u] ty #[.slice base0 es.length cap, x]).run P w = .ok y w1 ∧ CoreS n E1 σ [ownV tail 0 sz (es ++ fs)] ts [y] w1.heap ∧ Grow base E w.heap E1 w1.heap ∧ WSame w w1 := by
  have hrel := (hand_rel (hs := []) (xs := []) hC).2 0 (ownV tail g sz es) _ (by rw [(ownV_leaf tail g sz es).2.2]; rfl) rfl
  obtain ⟨a', cap', e1, hO⟩ := ownV_rel.1 hrel
  injection e1 with e2 e3 e4
  subst e2 e4
  have hC0 := hC.popOwn
  by_cases hroom : es.length + fs.length ≤ cap
  · obtain ⟨d, hu, hd'⟩ := hT.hu
    have hO' : cap = 0 → ∃ E1 w1 y, (Builtin.append_ #[t, u] ty #[.slice base0 es.length cap, x]).run P w = .ok y w1 ∧ CoreS n E1 σ [ownV tail 0 sz (es ++ fs)] ts [y] w1.heap ∧ Grow base E w.heap E1 w1.heap ∧ WSame w w1 := by
      intro h0
      have h1 : es = [] := List.eq_nil_of_length_eq_zero (by omega)
      have h2 : fs = [] := List.eq_nil_of_length_eq_zero (by omega)
      subst h1 h2
      have hn0 : news = [] := List.eq_nil_of_length_eq_zero (by simpa using hx.size)
      have hrun := append_room (ty := ty) (len := 0) (base0 := base0) (w' := w) hT.ht hu hd' hT.hs hx hroom (fun ad _ => by subst hn0; rfl) (fun _ => rfl)
      exact ⟨E, w, _, hrun, CoreS.pushOwn (es := []) hC0 ⟨by simp, hO.nil, hO.spot, fun h => absurd h0 h, Elems.nil _ _ _ _⟩, Grow.refl _ _ _, WSame.refl _⟩
    by_cases h0 : cap = 0
    · exact hO' h0
    · obtain ⟨ad, arr, T, f, b1, b2, b3, b4, b5⟩ := hO.block h0
      subst b1
      have hsp := hO.spot ad rfl h0
      have hmul : (es.length + fs.length) * sz ≤ cap * sz := Nat.mul_le_mul_right _ hroom
      rw [Nat.add_mul, ← hx.size] at hmul
      have hst := storeCells_run (P := P) (b := ad.block) (off := ad.off + es.length * sz) (T := T) (f := f) news 0 arr w b3 b5 (by omega) hx.leaf
      rw [Nat.add_zero] at hst
      have hrun := append_room (ty := ty) (len := es.length) (base0 := some ad) hT.ht hu hd' hT.hs hx hroom (fun ad' h => by cases h; rw [add_eq hsp]; exact hst) (fun h => by cases h)
      have hc1 : ∀ i, E.imm ad.block i → (E.setTag ad.block (ownTag tail (.slot n 0) (ad.off + (es ++ fs).length * sz))).imm ad.block i ∧ cellAt (w.heap.setIfInBounds ad.block (.cells (setsA arr (ad.off + es.length * sz) news) T f)) ad.block i = cellAt w.heap ad.block i := by
        intro i hi
        simp only [List.length_nil, Nat.add_zero] at b2
        cases tail with
        | false => simp [Env.imm, b2, ownTag] at hi
        | true =>
          simp only [Env.imm, b2, ownTag, if_true] at hi
          refine ⟨?_, ?_⟩
          · simp only [Env.imm, setTag_same, ownTag, if_true, List.length_append, Nat.add_mul]; omega
          · simp only [cellAt, Array.getElem?_setIfInBounds_self_of_lt (lt_of_getElem?' b3), b3]
            rw [setsA_get _ _ _ _ (by omega), if_neg (by omega)]
      obtain ⟨hC1, hG1⟩ := hC0.changeHand (base := base) (m := ad.off + es.length * sz) (tail := tail) b2 (lt_of_getElem?' b3) hc1
      refine ⟨_, _, _, hrun, ?_, hG1, ⟨rfl, rfl, rfl⟩⟩
      have hend := CoreS.pushOwn (g := 0) (tail := tail) (sz := sz) (es := es ++ fs) (a := some ad) (cap := cap) hC1 ⟨by simpa using hroom, hO.nil, hO.spot, fun _ => ⟨ad, _, T, f, rfl, setTag_same _ _ _, Array.getElem?_setIfInBounds_self_of_lt (lt_of_getElem?' b3), by rw [setsA_size]; exact b4, by rw [setsA_size]; exact b5⟩,
        elems_behind hO.elems b3 hx.row hx.size (by omega) hG1.imm⟩
      simp only [List.length_append] at hend ⊢
      exact hend
  · have hw : View E.imm w.heap sz es (.slice base0 es.length cap) base0 cap := ⟨rfl, hO.le, hO.nil, hO.spot, hO.elems⟩
    obtain ⟨olds, ho⟩ := hw.src P
    exact append_fresh hT hC0 hx ho (by omega) hbig tail
end
end Go.Vq
namespace Go.Vq
section
variable {P : Program} {n base : Nat} {E E' : Env} {σ σ' : St} {hs : List V} {ts xs : List Value} {H H' : Array Go.Obj}
variable {callee : Callee} {o : Oper} {a : Act} {w : World} {next : Act → World → Prop} {Q : Exit → Act → World → Prop}
def gSrc (sz : Nat) (xv : V) (k : List V → Prog) : Prog :=
  (match xv with
       | .str b => fun (k : List V → Prog) => if sz = 1 then k (bytesV b) else .fail
       | xv => fun k => gView xv fun sz' xs => if sz' = sz then k xs else .fail) k
theorem gSrc_sound {x' : Opd} {x : Value} {sz : Nat} {k : List V → Prog} (hC : CoreS n E σ hs ts xs H) (hok : OpdOk ts x' x) (hr : (gOpd x' fun xv => gSrc sz xv k).run σ = some σ') (P : Program) :
    ∃ fs news, (k fs).run σ = some σ' ∧ Src P E.imm H sz fs x news := by
  obtain ⟨v, hr2, ⟨s, hS, hs'⟩, hrest⟩ := opd_rel (v := .nil) hC hok hr
  clear hrest hs' hr
  have hview : (∀ b, v ≠ .str b) → (gView v fun sz' xs => if sz' = sz then k xs else .fail).run σ = some σ' → ∃ fs news, (k fs).run σ = some σ' ∧ Src P E.imm H sz fs x news := by
    intro hne h
    have hl : v.leaf = true ∧ ∀ g, v ≠ .gone g := by
      cases v <;> first | (cases h; done) | exact ⟨rfl, fun g => by simp⟩
    obtain ⟨_, hR⟩ := rel_leaf hS hl.1 hl.2
    obtain ⟨sz', es, a1, cap, h2, hw⟩ := gView_sound hC hR h
    rw [Prog.run_ite] at h2
    split at h2
    · rename_i e
      subst e
      obtain ⟨news, hsrc⟩ := hw.src P
      exact ⟨es, news, h2, hsrc⟩
    · cases h2
  by_cases hstr : ∃ b, v = .str b
  · obtain ⟨b, rfl⟩ := hstr
    simp only [gSrc] at hr2
    rw [Prog.run_ite] at hr2
    split at hr2
    · rename_i e
      subst e
      have e0 := slot_toVal (y := .string ⟨b.toArray⟩) hS rfl
      subst e0
      exact ⟨_, _, hr2, str_src P H b⟩
    · cases hr2
  · have hne : ∀ b, v ≠ .str b := fun b e => hstr ⟨b, e⟩
    refine hview hne ?_
    cases v <;> first | exact absurd rfl (hne _) | exact hr2
theorem op_append {c : Call} {s x : Operand} {s' x' : Opd} {t u e : TypeId} {sz bytes : Nat} (ho : o.op = .call c) (hc : c.callee = .builtin .append) (ha : c.args = #[s, x]) (ht : c.argTypes = #[t, u]) (hT : AppT P t u e sz bytes) (hs' : opd P t s = some s') (hx : opd P u x = some x')
    (hC : CoreS n E σ [] a.tmps.toList [] w.heap) (hr : (opProg callee base o.dst (.append sz bytes s' x')).run σ = some σ') (K : NextOk n base E σ' a w next) : o.upon P a next Q ((execOp a.eval o).run P w) := by
  have hr' : (gOpd x' fun xv => gSrc sz xv fun fs => gOpd s' fun sv =>
      match sv with
      | .srf h g sz' off len => settle1 (some h) (.srf h g sz' off len) fun
          | .xsl _ sz'' es => if sz'' = sz ∧ (es.length + fs.length) * bytes ≤ 140737488355328 then putO o.dst (.xsl 0 sz (es ++ fs)) .ret else .fail
          | .fsl _ sz'' es => if sz'' = sz ∧ (es.length + fs.length) * bytes ≤ 140737488355328 then putO o.dst (.fsl 0 sz (es ++ fs)) .ret else .fail
          | _ => .fail
      | .xsl _ sz' es =>
          if sz' = sz ∧ (es.length + fs.length) * bytes ≤ 140737488355328 then drain s' (putO o.dst (.xsl 0 sz (es ++ fs)) .ret) else .fail
      | .fsl _ sz' es =>
          if sz' = sz ∧ (es.length + fs.length) * bytes ≤ 140737488355328 then drain s' (putO o.dst (.fsl 0 sz (es ++ fs)) .ret) else .fail
      | .nilS sz' => if sz' = sz ∧ fs.length * bytes ≤ 140737488355328 then putO o.dst (.xsl 0 sz fs) .ret else .fail
      | .csl sz' es =>
          if sz' = sz ∧ 0 < fs.length ∧ (es.length + fs.length) * bytes ≤ 140737488355328 then putO o.dst (.xsl 0 sz (es ++ fs)) .ret else .fail
      | _ => .fail).run σ = some σ' := hr
  clear hr
  obtain ⟨fs, news, hr2, hsrc⟩ := gSrc_sound hC (opd_ok a hx) hr' P
  clear hr'
  have hok := opd_ok a hs'
  obtain ⟨v, hr, ⟨q, hS, hq'⟩, hrf, hh1, hh2⟩ := opd_rel (v := .nil) hC hok hr2
  clear hr2
  have hend : ∀ {E1 : Env} {σ1 : St} {v' : V} {y : Value} {w1 : World} {b0 : Option Addr} {l0 c0 : Nat}, a.eval s = .slice b0 l0 c0 → (Builtin.append_ #[t, u] o.type #[.slice b0 l0 c0, a.eval x]).run P w = .ok y w1 → CoreS n E1 σ1 [v'] a.tmps.toList [y] w1.heap → Grow base E w.heap E1 w1.heap → WSame w w1 →
      (putO o.dst v' .ret).run σ1 = some σ' → o.upon P a next Q ((execOp a.eval o).run P w) := by
    intro E1 σ1 v' y w1 b0 l0 c0 he hrun h1 h2 h3 h4
    refine value_end h1 h2 h3 h4 K ?_
    rw [builtin_run ho hc]
    simp only [builtin, ha, ht, List.map_toArray, List.map_cons, List.map_nil, he, Sem.run_bind, hrun, Result.andThen_ok, Sem.run_pure]
  have hown : ∀ {E1 : Env} {σ1 : St} {tail : Bool} {g : Nat} {es : List V}, CoreS n E1 σ1 [ownV tail g sz es] a.tmps.toList [a.eval s] w.heap → Grow base E w.heap E1 w.heap → (es.length + fs.length) * bytes ≤ 140737488355328 → (putO o.dst (ownV tail 0 sz (es ++ fs)) .ret).run σ1 = some σ' → o.upon P a next Q ((execOp a.eval o).run P w) := by
    intro E1 σ1 tail g es h1 h2 h3 h4
    have hrel := (hand_rel (hs := []) (xs := []) h1).2 0 (ownV tail g sz es) (a.eval s) (by rw [(ownV_leaf tail g sz es).2.2]; rfl) (by
      have hl := (ownV_leaf tail g sz es).1
      rw [vleaves_leaf ((rel_leaf (hand_rel (hs := []) (xs := []) h1) hl (by cases tail <;> simp [ownV])).1)]; rfl)
    obtain ⟨b0, c0, e1, _⟩ := ownV_rel.1 hrel
    rw [e1] at h1
    obtain ⟨E2, w1, y, g1, g2, g3, g4⟩ := append_own (base := base) (ty := o.type) hT h1 (hsrc.mono h2.imm) h3
    exact hend e1 g1 g2 (h2.trans g3) g4 h4
  have hfresh : ∀ {es : List V} {b0 : Option Addr} {c0 : Nat}, View E.imm w.heap sz es (a.eval s) b0 c0 → c0 < es.length + fs.length → (es.length + fs.length) * bytes ≤ 140737488355328 → (putO o.dst (.xsl 0 sz (es ++ fs)) .ret).run σ = some σ' → o.upon P a next Q ((execOp a.eval o).run P w) := by
    intro es b0 c0 hw h1 h2 h3
    obtain ⟨olds, hos⟩ := hw.src P
    have e1 := hw.eq
    rw [e1] at hos
    obtain ⟨E2, w1, y, g1, g2, g3, g4⟩ := append_fresh (base := base) (ty := o.type) hT hC hsrc hos h1 h2 false
    exact hend e1 g1 g2 g3 g4 h3
  cases v <;> first | (cases hr; done) | skip
  case srf h g sz' off len =>
    simp only at hr
    obtain ⟨_, hR⟩ := rel_leaf hS rfl (fun g => by simp)
    have hC1 : CoreS n E σ [.srf h g sz' off len] a.tmps.toList [a.eval s] w.heap := hC.pushLeaf rfl rfl hR (fun r hr => hrf r (by simpa [V.refs, V.leaves, V.refs1] using hr))
    obtain ⟨E1, σ1, u', hC2, hG, _, hr3, hl', _, _⟩ := settle1_sound (base := base) (hs := []) (xs := []) (i := 0) (u := .srf h g sz' off len) hC1 rfl hr
    clear hr
    have hC3 : CoreS n E1 σ1 [u'] a.tmps.toList [a.eval s] w.heap := hC2
    cases u' <;> first | (cases hr3; done) | skip
    case xsl g2 sz2 es2 =>
      rw [Prog.run_ite] at hr3
      split at hr3
      · rename_i hcnd
        obtain ⟨rfl, hbig⟩ := hcnd
        exact hown (tail := false) hC3 hG hbig hr3
      · cases hr3
    case fsl g2 sz2 es2 =>
      rw [Prog.run_ite] at hr3
      split at hr3
      · rename_i hcnd
        obtain ⟨rfl, hbig⟩ := hcnd
        exact hown (tail := true) hC3 hG hbig hr3
      · cases hr3
  case xsl g sz' es =>
    simp only at hr
    rw [Prog.run_ite] at hr
    split at hr
    · rename_i hcnd
      obtain ⟨rfl, hbig⟩ := hcnd
      obtain ⟨E1, σ1, b1, b2, _, b4⟩ := grab_sound (base := base) hC ⟨q, hS, hq'⟩ hrf hh1 hh2 hok hr
      exact hown (tail := false) b1 b2 hbig b4
    · cases hr
  case fsl g sz' es =>
    simp only at hr
    rw [Prog.run_ite] at hr
    split at hr
    · rename_i hcnd
      obtain ⟨rfl, hbig⟩ := hcnd
      obtain ⟨E1, σ1, b1, b2, _, b4⟩ := grab_sound (base := base) hC ⟨q, hS, hq'⟩ hrf hh1 hh2 hok hr
      exact hown (tail := true) b1 b2 hbig b4
    · cases hr
  case nilS sz' =>
    simp only at hr
    rw [Prog.run_ite] at hr
    split at hr
    · rename_i hcnd
      obtain ⟨rfl, hbig⟩ := hcnd
      have e0 := slot_toVal (y := .slice none 0 0) hS rfl
      have hw : View E.imm w.heap sz' [] (a.eval s) none 0 := by rw [e0]; exact View.of_nil _
      by_cases h0 : fs = []
      · subst h0
        obtain ⟨d, hu, hd'⟩ := hT.hu
        have hn0 : news = [] := List.eq_nil_of_length_eq_zero (by simpa using hsrc.size)
        have hrun := append_room (ty := o.type) (len := 0) (cap := 0) (base0 := none) (w' := w) hT.ht hu hd' hT.hs hsrc (by simp) (fun ad h => by cases h) (fun _ => rfl)
        refine hend e0 hrun (CoreS.pushOwn (tail := false) (g := 0) (sz := sz') (es := []) hC ⟨by simp, fun _ => rfl, (fun _ h => by cases h), fun h => absurd rfl h, Elems.nil _ _ _ _⟩) (Grow.refl _ _ _) (WSame.refl _) hr
      · refine hfresh hw ?_ (by simpa using hbig) (by simpa using hr)
        have : 0 < fs.length := List.length_pos_iff.2 h0
        simpa using this
    · cases hr
  case csl sz' es =>
    simp only at hr
    rw [Prog.run_ite] at hr
    split at hr
    · rename_i hcnd
      obtain ⟨rfl, hpos, hbig⟩ := hcnd
      obtain ⟨_, hR⟩ := rel_leaf hS rfl (fun g => by simp)
      obtain ⟨hI, a1, e1⟩ := hR
      obtain ⟨a2, cap, hw, _⟩ := View.of_isl hI
      have e2 := hw.eq
      rw [e1] at e2
      injection e2 with e3 e4 e5
      subst e3 e5
      exact hfresh hw (by omega) hbig hr
    · cases hr
theorem zeroCells_zrow (zero : Array Value) (m : Nat) : Builtin.zeroCells zero m = zrow zero (m * zero.size) := rfl
theorem append_zeros {t u e ty : TypeId} {k k' : IntKind} {m : Int} {sz bytes : Nat} {zs : List V} (ht : under P t = some (.slice e)) (hu : under P u = some (.int k)) (hs : szOf P e = some sz) (hb : bytesOf P e = some bytes)
    (hz : zeroOf P e = some zs) (hzl : zs.length = sz) (hsz : sz ≠ 0) (hb0 : bytes ≠ 0) (h1 : 0 < m) (h2 : m * bytes ≤ 140737488355328) (h3 : m < 9223372036854775808) :
    ∃ inf z, P.info? e = some inf ∧ inf.zero = some z ∧ z.cells.size = zs.length ∧
    (Builtin.append_ #[t, u] ty #[.slice none 0 0, .int k' m]).run P w = .ok (.slice (some ⟨w.heap.size, 0, none⟩) m.toNat (grownCap w m.toNat 0 e))
      { w.drew with heap := w.heap.push (.cells ((zrow z.cells (m.toNat * zs.length)) ++ (Builtin.zeroCells z.cells (grownCap w m.toNat 0 e - m.toNat))) e (0, 0)) } := by
  obtain ⟨inf, z, hi, hz1, g1, g2⟩ := zeroOf_ok hz
  have hinf : inf.size = sz := by simp only [szOf, hi, Option.map_some, Option.some.injEq] at hs; exact hs
  have hby : inf.bytes = bytes := by simp only [bytesOf, hi, Option.map_some, Option.some.injEq] at hb; exact hb
  refine ⟨inf, z, hi, hz1, g1.symm, ?_⟩
  have w1 : IntKind.i64.wrap m = m := by rw [IntKind.wrap_i64]; omega
  have t2 : ¬ m < 0 := by omega
  obtain ⟨q, rfl⟩ : ∃ q : Nat, m = q := ⟨m.toNat, by omega⟩
  have hq0 : q ≠ 0 := by omega
  have h2' : q * bytes ≤ 140737488355328 := by omega
  have t1 : ¬ (281474976710656 < (q : Int) * (bytes : Int)) := by omega
  have hn : ¬ (q ≤ 0) := by omega
  have hfit := growslice_fits (Nat.pos_of_ne_zero hq0) h2'
  have h48 : ¬ (281474976710656 < Builtin.nextslicecap q 0 * bytes) := by omega
  have hq : (Question.appendCap q 0 e).cut (w.tape w.drawn (Question.appendCap q 0 e)) = grownCap w q 0 e := rfl
  simp only [Int.toNat_natCast]
  have hw0 : ¬ (q = 0 ∨ sz = 0) := by omega
  have hmax : ¬ ((9223372036854775807 : Int) < (q : Int)) := by omega
  simp [Builtin.append_, run_under ht, run_under hu, run_size hs, typeInfo, zeroValue, hi, hz1, hby, hb0, asInt, asIntOf, w1, t2, t1, hn, h48, Question.forced, Builtin.firstCells, Go.newRow, hq, hq0, hsz, hmax, zeroCells_zrow, g1]
  rw [if_neg (Nat.mul_ne_zero hq0 hsz)]; rfl
theorem op_appendZ {c : Call} {s x : Operand} {s' x' : Opd} {t u e : TypeId} {k : IntKind} {sz bytes : Nat} {zs : List V} {agg : Bool} {zero : V} (ho : o.op = .call c) (hc : c.callee = .builtin .append) (ha : c.args = #[s, x]) (htt : c.argTypes = #[t, u]) (ht : under P t = some (.slice e)) (hu : under P u = some (.int k)) (hs : szOf P e = some sz) (hb : bytesOf P e = some bytes)
    (hz : zeroOf P e = some zs) (hzl : zs.length = sz) (hsz : sz ≠ 0) (hb0 : bytes ≠ 0) (hzero : ofCells agg (zs.map freeze1) = some zero) (hs' : opd P t s = some s') (hx : opd0 x = some x')
    (hC : CoreS n E σ [] a.tmps.toList [] w.heap) (hr : (opProg callee base o.dst (.appendZ sz bytes zero s' x')).run σ = some σ') (K : NextOk n base E σ' a w next) : o.upon P a next Q ((execOp a.eval o).run P w) := by
  obtain ⟨k1, m, hm, hr⟩ := gInt_sound hC (opd0_ok a hx) hr
  obtain ⟨v, hr2, ⟨sl, hS, hs2⟩, hrest⟩ := opd_rel (v := .nil) hC (opd_ok a hs') hr
  cases v <;> first | (cases hr2; done) | skip
  rename_i sz'
  obtain ⟨_, hR⟩ := rel_leaf hS rfl (fun g => by simp)
  have hR' := relV_toVal hR rfl
  rw [Prog.run_ite] at hr2
  split at hr2
  · rename_i hcnd
    obtain ⟨g0, g1, g2, g3⟩ := hcnd
    obtain ⟨inf, z, hi, hz1, hzs, hrun⟩ := append_zeros (P := P) (w := w) (ty := o.type) (k' := k1) ht hu hs hb hz hzl hsz hb0 g1 g2 g3
    obtain ⟨c1, c2⟩ := zeroElem hz hzero
    have hge := grownCap_ge w m.toNat 0 e
    subst hzl
    have hR0 : RowRel E.imm w.heap zs.length (List.replicate m.toNat zero) (zrow z.cells (m.toNat * zs.length)) := by
      refine ⟨fun u hu => ?_, fun i u j v h3 h4 => ?_⟩
      · rw [(List.mem_replicate.1 hu).2]
        exact ⟨by rw [c1]; simp, c2⟩
      · have hil := lt_of_getElem? h3
        rw [List.length_replicate] at hil
        rw [List.getElem?_replicate] at h3
        split at h3
        · cases h3
          exact zeroRel hz hzero hi hz1 hil h4 _ _
        · omega
    have hR1 := (RowRel.append (imm := E.imm) (H := w.heap) (sz := zs.length) (es := []) (fs := List.replicate m.toNat zero) (l1 := []) (l2 := (zrow z.cells (m.toNat * zs.length)).toList) (l3 := (Builtin.zeroCells z.cells (grownCap w m.toNat 0 e - m.toNat)).toList)
      ⟨fun e h => by simp at h, fun i e j v h => by simp at h⟩ (by simpa using hR0) (by simp) (by simp [zrow_size]))
    rw [List.nil_append, List.nil_append] at hR1
    have harr : ((zrow z.cells (m.toNat * zs.length)).toList ++ (Builtin.zeroCells z.cells (grownCap w m.toNat 0 e - m.toNat)).toList).toArray = zrow z.cells (m.toNat * zs.length) ++ Builtin.zeroCells z.cells (grownCap w m.toNat 0 e - m.toNat) := by apply Array.ext'; simp
    rw [harr] at hR1
    obtain ⟨E', h1, h2⟩ := hC.newOwn (base := base) (tail := false) (g := 0) (cap := grownCap w m.toNat 0 e) (T := e) (f := (0, 0)) (by simpa using hge) (by
      simp only [Array.size_append, zrow_size, size_zeroCells, hzs, ← Nat.add_mul]
      exact Nat.mul_le_mul_right _ (by omega)) (open_00 _) hR1
    rw [List.length_replicate] at h1
    refine value_end (w1 := { w.drew with heap := w.heap.push (.cells ((zrow z.cells (m.toNat * zs.length)) ++ (Builtin.zeroCells z.cells (grownCap w m.toNat 0 e - m.toNat))) e (0, 0)) }) h1 h2 ⟨rfl, rfl, rfl⟩ hr2 K ?_
    rw [builtin_run ho hc]
    simp only [builtin, ha, htt, Sem.run_bind]
    have e0 : (#[s, x].map a.eval) = #[.slice none 0 0, .int k1 m] := by simp [hR', hm]
    rw [e0, hrun]; rfl
  · cases hr2
end
end Go.Vq
namespace Go.Vq
section
variable {P : Program} {n base : Nat} {E E' : Env} {σ σ' : St} {hs : List V} {ts xs : List Value} {H H' : Array Go.Obj}
variable {callee : Callee} {o : Oper} {a : Act} {w : World} {next : Act → World → Prop} {Q : Exit → Act → World → Prop}
theorem copy_run {t u e ty : TypeId} {sz len cap : Nat} {fs : List V} {x : Value} {news : List Value} {imm : Nat → Nat → Prop} {base0 : Option Addr} (ht : under P t = some (.slice e)) (hs : szOf P e = some sz) (hx : Src P imm w.heap sz fs x news) {w' : World}
    (hst : ∀ ad, base0 = some ad → (storeCells ad (news.take (Nat.min fs.length len * sz))).run P w = .ok () w') (hno : base0 = none → w' = w) :
    (Builtin.copy_ #[t, u] ty #[.slice base0 len cap, x]).run P w = .ok (.int .i64 (Nat.min fs.length len)) w' := by
  have hf := hx.cells w (Nat.min fs.length len) rfl (Nat.min_le_left _ _)
  cases base0 with
  | none =>
    have := hno rfl
    subst this
    simp only [Builtin.copy_, List.getElem?_toArray, List.getElem?_cons_zero, List.getElem?_cons_succ, Sem.run_bind, run_under ht, Result.andThen_ok, hx.len, run_size hs, hf, Sem.run_pure, goInt]
  | some ad =>
    have h1 := hst ad rfl
    simp only [Builtin.copy_, List.getElem?_toArray, List.getElem?_cons_zero, List.getElem?_cons_succ, Sem.run_bind, run_under ht, Result.andThen_ok, hx.len, run_size hs, hf, Sem.run_pure, goInt]
    simp [h1]
theorem flat_ok {v : V} (h : v.flat = true) : v.leaf = true ∧ v.own = false ∧ v.refs1 = [] ∧ obj1 v = v ∧ v.inObj = true ∧ v.plain = true ∧ v.cells = [v] := by
  cases v <;> first | (simp [V.flat] at h; done) | exact ⟨rfl, rfl, rfl, rfl, rfl, rfl, rfl⟩
theorem map_obj1 : ∀ {l : List V}, (∀ u ∈ l, u.flat = true) → l.map obj1 = l
  | [], _ => rfl
  | v :: l, h => by rw [List.map_cons, (flat_ok (h v (by simp))).2.2.2.1, map_obj1 fun u hu => h u (by simp [hu])]
theorem RowRel.flat {imm : Nat → Nat → Prop} {fs : List V} {l : List Value} (h : RowRel imm H 1 fs l.toArray) (hf : ∀ u ∈ fs, u.flat = true) {j : Nat} {u : V} {y : Value} (hu : fs[j]? = some u) (hy : l[j]? = some y) : RelI imm H u y := by
  obtain ⟨x, e1, e2⟩ := h.cell j u 0 u hu (by rw [(flat_ok (hf u (List.mem_of_getElem? hu))).2.2.2.2.2.2]; rfl)
  rw [List.getElem?_toArray, Nat.mul_one, Nat.add_zero, hy] at e1
  cases e1; exact e2
theorem RowRel.take {imm : Nat → Nat → Prop} {sz : Nat} {fs : List V} {l : List Value} (h : RowRel imm H sz fs l.toArray) (m : Nat) : RowRel imm H sz (fs.take m) (l.take (m * sz)).toArray := by
  refine ⟨fun e he => h.ok e (List.mem_of_mem_take he), fun i e j v hi hj => ?_⟩
  have hil := lt_of_getElem? hi
  have hm : i < m := by simp at hil; omega
  rw [List.getElem?_take_of_lt hm] at hi
  obtain ⟨x, e1, e2⟩ := h.cell i e j v hi hj
  have hjl := lt_of_getElem? hj
  rw [(h.ok e (List.mem_of_getElem? hi)).1] at hjl
  refine ⟨x, ?_, e2⟩
  rw [List.getElem?_toArray] at e1 ⊢
  have := Nat.mul_le_mul_right sz hm
  rw [Nat.succ_mul] at this
  rw [List.getElem?_take_of_lt (by omega)]; exact e1
theorem elems_splice {imm : Nat → Nat → Prop} {ad : Addr} {sz off : Nat} {es fs : List V} {arr : Array Value} {T : TypeId} {f : Nat × Nat} {l : List Value} (hel : Elems imm H (some ad) sz es) (hb : H[ad.block]? = some (.cells arr T f))
    (hR : RowRel imm H sz fs l.toArray) (hn : l.length = fs.length * sz) (hle : off + fs.length ≤ es.length) (hfit : ad.off + es.length * sz ≤ arr.size) (himm : ∀ b j, imm b j → b ≠ ad.block) :
    Elems imm (H.setIfInBounds ad.block (.cells (setsA arr (ad.off + off * sz) l) T f)) (some ad) sz (splice es off fs) := by
  have hrow : ∀ k m, k < m → k * sz + sz ≤ m * sz := by
    intro k m hk
    have := Nat.mul_le_mul_right sz hk
    rw [Nat.succ_mul] at this; exact this
  have hlt := lt_of_getElem?' hb
  have hcell : ∀ i, cellAt (H.setIfInBounds ad.block (.cells (setsA arr (ad.off + off * sz) l) T f)) ad.block i = (setsA arr (ad.off + off * sz) l)[i]? := by
    intro i; simp only [cellAt, Array.getElem?_setIfInBounds_self_of_lt hlt]
  have hm : ∀ b i, imm b i → imm b i ∧ cellAt (H.setIfInBounds ad.block (.cells (setsA arr (ad.off + off * sz) l) T f)) b i = cellAt H b i := fun b i hi => ⟨hi, by simp only [cellAt, set_old (himm b i hi)]⟩
  have hmul : (off + fs.length) * sz ≤ es.length * sz := Nat.mul_le_mul_right _ hle
  rw [Nat.add_mul] at hmul
  have hg : ∀ i : Nat, (splice es off fs)[i]? = if off ≤ i ∧ i < off + fs.length then fs[i - off]? else es[i]? := fun i => splice_get hle
  have hok : ∀ (i : Nat) (e : V), (splice es off fs)[i]? = some e → elemOk sz e := by
    intro i e he
    rw [hg] at he
    split at he
    · exact hR.ok e (List.mem_of_getElem? he)
    · exact hel.1 e (List.mem_of_getElem? he)
  refine ⟨fun e he => by obtain ⟨i, hi⟩ := List.mem_iff_getElem?.1 he; exact hok i e hi, fun i e j v hi hj => ?_⟩
  have hjl := lt_of_getElem? hj
  rw [(hok i e hi).1] at hjl
  have hil := lt_of_getElem? hi
  rw [splice_len hle] at hil
  have := hrow i _ hil
  rw [hg] at hi
  split at hi
  · rename_i hc
    obtain ⟨x, e1, e2⟩ := hR.cell _ e j v hi hj
    have h3 : i * sz = off * sz + (i - off) * sz := by rw [← Nat.add_mul]; congr 1; omega
    have := hrow (i - off) fs.length (by omega)
    refine ⟨ad, x, rfl, ?_, e2.mono hm⟩
    rw [hcell, setsA_get _ _ _ _ (by omega), if_pos (by omega)]
    rw [List.getElem?_toArray] at e1
    rw [← e1]; congr 1; omega
  · rename_i hc
    obtain ⟨ad', x, e1, e2, e3⟩ := hel.2 i e j v hi hj
    cases e1
    refine ⟨ad, x, rfl, ?_, e3.mono hm⟩
    rw [hcell, setsA_get _ _ _ _ (by omega), if_neg]
    · simp only [cellAt, hb] at e2; exact e2
    · intro hcon
      apply hc
      have h1 : off ≤ i := by
        rcases Nat.lt_or_ge i off with h | h
        · have := hrow i off h; omega
        · exact h
      refine ⟨h1, ?_⟩
      rcases Nat.lt_or_ge i (off + fs.length) with h | h
      · exact h
      · have := Nat.mul_le_mul_right sz h
        rw [Nat.add_mul] at this; omega
theorem op_copy {c : Call} {dd s : Operand} {d' s' : Opd} {t u e : TypeId} {sz : Nat} (ho : o.op = .call c) (hc : c.callee = .builtin .copy) (ha : c.args = #[dd, s]) (ht : c.argTypes = #[t, u]) (hu : under P t = some (.slice e)) (hsz : szOf P e = some sz) (hdd : opd P t dd = some d') (hs' : opd P u s = some s')
    (hC : CoreS n E σ [] a.tmps.toList [] w.heap) (hr : (opProg callee base o.dst (.copy sz d' s')).run σ = some σ') (K : NextOk n base E σ' a w next) : o.upon P a next Q ((execOp a.eval o).run P w) := by
  have hr' : (gOpd s' fun sv => gSrc sz sv fun fs => gOpd d' fun dv => if dv.sz? ≠ some sz then .fail else
      match dv with
      | .asl r len =>
          if Nat.min fs.length len = 0 then putO o.dst (.int .i64 0) .ret else
          if (fs.take (Nat.min fs.length len)).all V.flat then sCells r (fs.take (Nat.min fs.length len)) (putO o.dst (.int .i64 (Nat.min fs.length len)) .ret) else .fail
      | .srf h g sz off len =>
          if Nat.min fs.length len = 0 then putO o.dst (.int .i64 0) .ret else
          gElems h g sz fun own es =>
          if own = true ∧ off + len ≤ es.length then sHome h (.xsl g sz (splice es off (fs.take (Nat.min fs.length len)))) (putO o.dst (.int .i64 (Nat.min fs.length len)) .ret) else .fail
      | _ => .fail).run σ = some σ' := hr
  clear hr
  obtain ⟨fs, news, hr2, hsrc⟩ := gSrc_sound hC (opd_ok a hs') hr' P
  clear hr'
  have hok := opd_ok a hdd
  obtain ⟨v, hr, ⟨q, hS, hq'⟩, hrf, hh1, hh2⟩ := opd_rel (v := .nil) hC hok hr2
  clear hr2 hh1 hh2 hq'
  rw [Prog.run_ite] at hr
  split at hr
  · cases hr
  rename_i hvs
  simp only [ne_eq, Decidable.not_not] at hvs
  have hend : ∀ {E1 : Env} {σ1 : St} {w1 : World} {b0 : Option Addr} {len c0 : Nat}, a.eval dd = .slice b0 len c0 → (Builtin.copy_ #[t, u] o.type #[.slice b0 len c0, a.eval s]).run P w = .ok (.int .i64 (Nat.min fs.length len)) w1 → CoreS n E1 σ1 [] a.tmps.toList [] w1.heap → Grow base E w.heap E1 w1.heap → WSame w w1 →
      (putO o.dst (.int .i64 (Nat.min fs.length len)) .ret).run σ1 = some σ' → o.upon P a next Q ((execOp a.eval o).run P w) := by
    intro E1 σ1 w1 b0 len c0 he hrun h1 h2 h3 h4
    refine value_end (h1.pushPlain (v := .int .i64 _) rfl) h2 h3 h4 K ?_
    rw [builtin_run ho hc]
    simp only [builtin, ha, ht, List.map_toArray, List.map_cons, List.map_nil, he, Sem.run_bind, hrun, Result.andThen_ok, Sem.run_pure]
  have hzero : ∀ {b0 : Option Addr} {len c0 : Nat}, a.eval dd = .slice b0 len c0 → Nat.min fs.length len = 0 → (putO o.dst (.int .i64 0) .ret).run σ = some σ' → o.upon P a next Q ((execOp a.eval o).run P w) := by
    intro b0 len c0 he h0 h1
    refine hend he (copy_run hu hsz hsrc (w' := w) (fun ad _ => ?_) (fun _ => rfl)) hC (Grow.refl _ _ _) (WSame.refl _) ?_
    · rw [h0, Nat.zero_mul]; rfl
    · rw [h0]; exact h1
  have hnews : ∀ m, m ≤ fs.length → (news.take (m * sz)).length = m * sz := by
    intro m hm
    rw [List.length_take, hsrc.size]
    exact Nat.min_eq_left (Nat.mul_le_mul_right _ hm)
  cases v <;> first | (cases hr; done) | skip
  case srf h g sz' off len =>
    cases hvs
    simp only at hr
    obtain ⟨_, hR⟩ := rel_leaf hS rfl (fun g => by simp)
    obtain ⟨a', c', e1, e2, e3, e4, e5⟩ := hR
    rw [Prog.run_ite] at hr
    split at hr
    · rename_i h0; exact hzero e1 h0 hr
    · rename_i h0
      replace hr := gElems_run hr
      obtain ⟨u1, own, es, hu1, hk, hr⟩ := hr
      rw [Prog.run_ite] at hr
      split at hr
      · rename_i hcnd
        obtain ⟨rfl, hle⟩ := hcnd
        rcases hk with ⟨rfl, _⟩ | ⟨_, hf⟩
        · obtain ⟨d4, _⟩ := ct_real' (n := n) (hs := []) hC.sl hu1 (fun g => by simp)
          obtain ⟨y, a0, cap, f1, f2, f3, _, _⟩ := hC.core.homeView d4 (.inl rfl)
          have hvl : valid (σ.slots ++ []) σ.objs h g sz := ⟨_, d4, rfl⟩
          have hle2 := f2.le
          have hmin : Nat.min fs.length len ≤ len := Nat.min_le_right _ _
          have hmin1 : Nat.min fs.length len ≤ fs.length := Nat.min_le_left _ _
          obtain ⟨ad, arr, T, f, b1, b2, b3, b4, b5⟩ := f3 rfl (by omega)
          subst b1
          obtain ⟨a1, l1, c1, g1, g2⟩ := e5 hvl
          rw [f1] at g1
          have e6 := f2.eq
          rw [e6] at g1
          injection g1 with g1
          injection g1 with g3 g4 g5
          subst g3 g5
          obtain ⟨ad', g6, g7, g8⟩ := g2 (by omega)
          cases g6
          subst g7
          have hmul : es.length * sz ≤ cap * sz := Nat.mul_le_mul_right _ hle2
          have hmul2 : (off + Nat.min fs.length len) * sz ≤ es.length * sz := Nat.mul_le_mul_right _ (by omega)
          rw [Nat.add_mul] at hmul2
          have hnl := hnews _ hmin1
          have htl : (fs.take (Nat.min fs.length len)).length = Nat.min fs.length len := by rw [List.length_take]; exact Nat.min_eq_left hmin1
          have hst := storeCells_run (P := P) (b := ad.block) (off := ad.off + off * sz) (T := T) (f := f) (news.take (Nat.min fs.length len * sz)) 0 arr w b3 b5 (by omega) (fun v hv => hsrc.leaf v (List.mem_of_mem_take hv))
          rw [Nat.add_zero] at hst
          have hE := elems_splice (off := off) f2.elems b3 (hsrc.row.take (Nat.min fs.length len)) (by rw [hnl, htl]) (by rw [htl]; omega) (by omega) (by rintro b j hb rfl; simp [Env.imm, b2] at hb)
          have hC2 := hC.writeHome (arr' := setsA arr (ad.off + off * sz) (news.take (Nat.min fs.length len * sz))) hu1 (by simp only [List.append_nil] at f1 ⊢; rw [f1, e6]) b2 b3 (setsA_size _ _ _) (splice_len (by rw [htl]; omega)) hE
          obtain ⟨_, hr⟩ := sHome_run hr
          refine hend (w1 := { w with heap := w.heap.setIfInBounds ad.block (.cells (setsA arr (ad.off + off * sz) (news.take (Nat.min fs.length len * sz))) T f) }) e1 (copy_run hu hsz hsrc (fun ad1 h1 => ?_) (fun h1 => by cases h1)) hC2 (Grow.writeHome b2) ⟨rfl, rfl, rfl⟩ hr
          cases h1; exact hst
        · cases hf
      · cases hr
  case asl r len =>
    cases hvs
    simp only at hr
    obtain ⟨_, hR⟩ := rel_leaf hS rfl (fun g => by simp)
    rw [Prog.run_ite] at hr
    split at hr
    · rename_i h0
      obtain ⟨b0, c0, e1⟩ := asl_slice hR
      exact hzero e1 h0 hr
    · rename_i h0
      rw [Prog.run_ite] at hr
      split at hr
      · rename_i hfl
        have hflat : ∀ u ∈ fs.take (Nat.min fs.length len), u.flat = true := fun u hu => List.all_eq_true.1 hfl u hu
        have hmin1 : Nat.min fs.length len ≤ fs.length := Nat.min_le_left _ _
        have hnl := hnews _ hmin1
        rw [Nat.mul_one] at hnl
        have htl : (fs.take (Nat.min fs.length len)).length = Nat.min fs.length len := by rw [List.length_take]; exact Nat.min_eq_left hmin1
        have hrowt := hsrc.row.take (Nat.min fs.length len)
        rw [Nat.mul_one] at hrowt
        have hlf : ∀ v ∈ news.take (Nat.min fs.length len), leafX v = true := fun v hv => hsrc.leaf v (List.mem_of_mem_take hv)
        cases r with
        | obj ob off =>
          obtain ⟨c0, e1, e2, e3⟩ := hR
          simp only [sCells, Prog.run] at hr
          split at hr
          · rename_i cs hob
            rw [Prog.run_ite] at hr
            split at hr
            · rename_i hle
              split at hr
              · rename_i ns hns
                simp only [Prog.run] at hr
                split at hr
                · obtain ⟨arr, T, f, g1, g2, g3, g4, g5, g6⟩ := hC.objAt hob
                  have hC1 := (hC.pushCells (cs := fs.take (Nat.min fs.length len)) (ys := news.take (Nat.min fs.length len)) (agg := true) (by rw [htl, hnl]) (fun j u y h1 h2 => by
                    have hu := hflat u (List.mem_of_getElem? h1)
                    obtain ⟨k1, k2, k3, _⟩ := flat_ok hu
                    exact ⟨⟨.slot 0 0, (relI_rel (hrowt.flat hflat h1 h2) k1).1 _ _ _ _⟩, k2, k1, by rw [k3]; intro r hr; cases hr⟩) rfl).1
                  obtain ⟨r1, r2, _⟩ := regens_some _ _ _ hns
                  have hlv : (V.agg (fs.take (Nat.min fs.length len))).leaves = fs.take (Nat.min fs.length len) := rfl
                  have hC2 := hC1.intoCells hob (by rw [hlv]; exact hle) (by rw [hlv, map_obj1 hflat]; exact hns) (fun u hu => by
                    obtain ⟨i, hi⟩ := List.mem_iff_getElem?.1 hu
                    obtain ⟨z, hz⟩ := exists_getElem? (l := fs.take (Nat.min fs.length len)) (i := i) (by have := lt_of_getElem? hi; omega)
                    obtain ⟨w1, w2, w3⟩ := r2 i z hz
                    rw [hi] at w2; cases w2
                    exact regen1_inObj w3 (flat_ok (hflat z (List.mem_of_getElem? hz))).2.2.2.2.1) g1 (by simp [vleaves, hlv, htl, hnl])
                  have hv2 : vleaves (if true = true then Value.agg (news.take (Nat.min fs.length len)).toArray else (news.take (Nat.min fs.length len)).headD undef) = news.take (Nat.min fs.length len) := by simp [vleaves]
                  rw [hv2] at hC2
                  have hst := storeCells_run (P := P) (b := E.addr ob) (off := off) (T := T) (f := f) (news.take (Nat.min fs.length len)) 0 arr w g1 g4 (by rw [hnl, g3, ← htl]; omega) hlf
                  rw [Nat.add_zero] at hst
                  refine hend (w1 := { w with heap := w.heap.setIfInBounds (E.addr ob) (.cells (setsA arr off (news.take (Nat.min fs.length len))) T f) }) e1 (copy_run hu hsz hsrc (fun ad1 h1 => ?_) (fun h1 => by cases h1)) hC2 (Grow.intoCells g2) ⟨rfl, rfl, rfl⟩ hr
                  cases h1; rw [Nat.mul_one]; exact hst
                · cases hr
              · cases hr
            · cases hr
          · cases hr
        | elem h g sz i off =>
          obtain ⟨ad', c0, e1, e2, e3, e5⟩ := hR
          simp only [sCells] at hr
          replace hr := gElems_run hr
          obtain ⟨u1, own, es, hu1, hk, hr⟩ := hr
          split at hr
          · rename_i e0 he
            rcases hk with ⟨rfl, _⟩ | ⟨_, hf⟩
            · rw [Prog.run_ite] at hr
              split at hr
              · rename_i hle
                obtain ⟨d4, _⟩ := ct_real' (n := n) (hs := []) hC.sl hu1 (fun g => by simp)
                obtain ⟨y, a0, cap, f1, f2, f3, _, _⟩ := hC.core.homeView d4 (.inl rfl)
                have hilt := lt_of_getElem? he
                have hle2 := f2.le
                obtain ⟨ad, arr, T, f, b1, b2, b3, b4, b5⟩ := f3 rfl (by omega)
                subst b1
                have hvl : valid (σ.slots ++ []) σ.objs h g sz := ⟨_, d4, rfl⟩
                obtain ⟨ad0, l, c, q1, q2⟩ := e5 hvl
                rw [f1] at q1; cases q1
                have e5 := f2.eq
                injection e5 with e5 e6 e7
                cases e5
                have he1 := (f2.elems.1 e0 (List.mem_of_getElem? he)).1
                have hrow : (i + 1) * sz ≤ es.length * sz := Nat.mul_le_mul_right _ hilt
                have hrow2 : es.length * sz ≤ cap * sz := Nat.mul_le_mul_right _ hle2
                rw [Nat.add_mul] at hrow
                have hfit : ad.off + (i * sz + off) + 0 + (news.take (Nat.min fs.length len)).length ≤ arr.size := by rw [hnl, ← htl]; omega
                have hst := storeCells_run (P := P) (b := ad.block) (off := ad.off + (i * sz + off)) (T := T) (f := f) (news.take (Nat.min fs.length len)) 0 arr w b3 b5 hfit hlf
                rw [Nat.add_zero] at hst
                have hne : ∀ b j, E.imm b j → b ≠ ad.block := by rintro b j hb rfl; simp [Env.imm, b2] at hb
                have hE := elems_set (vs := fs.take (Nat.min fs.length len)) (ys := news.take (Nat.min fs.length len)) f2.elems b3 he (fun u hu => (flat_ok (hflat u hu)).1) hle (by rw [htl, hnl]) (by omega) hne (fun j u y h1 h2 => hrowt.flat hflat h1 h2)
                have hC2 := hC.writeHome (arr' := setsA arr (ad.off + (i * sz + off)) (news.take (Nat.min fs.length len))) hu1 (by simp only [List.append_nil] at f1 ⊢; rw [f1, f2.eq]) b2 b3 (setsA_size _ _ _) (by simp) hE
                obtain ⟨_, hr⟩ := sHome_run hr
                refine hend (w1 := { w with heap := w.heap.setIfInBounds ad.block (.cells (setsA arr (ad.off + (i * sz + off)) (news.take (Nat.min fs.length len))) T f) }) e1 (copy_run hu hsz hsrc (fun ad1 h1 => ?_) (fun h1 => by cases h1)) hC2 (Grow.writeHome b2) ⟨rfl, rfl, rfl⟩ hr
                cases h1; rw [Nat.mul_one, q2]; exact hst
              · cases hr
            · cases hf
          · cases hr
      · cases hr
end
end Go.Vq
namespace Go.Vq
theorem rens_get {f : Nat → Option Nat} : ∀ {l l' : List V}, rens f l = some l' → l'.length = l.length ∧ ∀ (i : Nat) (v v' : V), l[i]? = some v → l'[i]? = some v' → V.ren f v = some v'
  | [], l', h => by simp only [rens, Option.some.injEq] at h; subst h; exact ⟨rfl, fun i v v' h => by simp at h⟩
  | v :: l, l', h => by
    simp only [rens, Option.bind_eq_bind, Option.pure_def] at h
    obtain ⟨v1, h1, h⟩ := Option.bind_eq_some_iff.1 h
    obtain ⟨l1, h2, h⟩ := Option.bind_eq_some_iff.1 h
    cases h
    obtain ⟨i1, i2⟩ := rens_get h2
    refine ⟨by simp [i1], fun i u u' hu hu' => ?_⟩
    cases i with
    | zero => simp at hu hu'; subst hu hu'; exact h1
    | succ i => exact i2 i u u' (by simpa using hu) (by simpa using hu')
theorem rens_append {f : Nat → Option Nat} : ∀ {l m l' m' : List V}, rens f l = some l' → rens f m = some m' → rens f (l ++ m) = some (l' ++ m')
  | [], m, l', m', h1, h2 => by simp only [rens, Option.some.injEq] at h1; subst h1; exact h2
  | v :: l, m, l', m', h1, h2 => by
    simp only [rens, Option.bind_eq_bind, Option.pure_def] at h1
    obtain ⟨v1, h3, h1⟩ := Option.bind_eq_some_iff.1 h1
    obtain ⟨l1, h4, h1⟩ := Option.bind_eq_some_iff.1 h1
    cases h1
    simp only [List.cons_append, rens, Option.bind_eq_bind, Option.pure_def, h3, rens_append h4 h2, Option.bind_some]
theorem ren_leaf {f : Nat → Option Nat} {v v' : V} (h : V.ren f v = some v') : v'.leaf = v.leaf ∧ (v.leaf = false → (∃ cs cs', v = .agg cs ∧ v' = .agg cs' ∧ rens f cs = some cs') ∨ ∃ cs cs', v = .tup cs ∧ v' = .tup cs' ∧ rens f cs = some cs') := by
  cases v <;> simp only [V.ren, Option.some.injEq, reduceCtorEq, Option.map_eq_some_iff] at h
  case agg cs => obtain ⟨cs', h1, rfl⟩ := h; exact ⟨rfl, fun _ => .inl ⟨cs, cs', rfl, rfl, h1⟩⟩
  case tup cs => obtain ⟨cs', h1, rfl⟩ := h; exact ⟨rfl, fun _ => .inr ⟨cs, cs', rfl, rfl, h1⟩⟩
  all_goals first
    | (subst h; exact ⟨rfl, fun h => by cases h⟩)
    | (obtain ⟨_, _, rfl⟩ := h; exact ⟨rfl, fun h => by cases h⟩)
theorem ren_leaves {f : Nat → Option Nat} {v v' : V} (hf : v.formed) (h : V.ren f v = some v') : rens f v.leaves = some v'.leaves ∧ v'.formed := by
  obtain ⟨h1, h2⟩ := ren_leaf h
  by_cases hl : v.leaf = true
  · rw [leaves_leaf hl, leaves_leaf (h1.trans hl)]
    refine ⟨by simp [rens, h], ?_⟩
    cases v' <;> first | trivial | (rw [hl] at h1; cases h1)
  · simp only [Bool.not_eq_true] at hl
    rcases h2 hl with ⟨cs, cs', rfl, rfl, h3⟩ | ⟨cs, cs', rfl, rfl, h3⟩
    · exact ⟨h3, trivial⟩
    · clear h h1 h2 hl
      show rens f (cs.flatMap V.cells) = some (cs'.flatMap V.cells) ∧ partsOk cs'
      induction cs generalizing cs' with
      | nil => simp only [rens, Option.some.injEq] at h3; subst h3; exact ⟨rfl, fun v h => by cases h⟩
      | cons c cs ih =>
        simp only [rens, Option.bind_eq_bind, Option.pure_def] at h3
        obtain ⟨c1, h4, h3⟩ := Option.bind_eq_some_iff.1 h3
        obtain ⟨l1, h5, h3⟩ := Option.bind_eq_some_iff.1 h3
        cases h3
        obtain ⟨i1, i2⟩ := ih l1 (fun v hv => hf v (List.mem_cons_of_mem _ hv)) h5
        have hc : rens f c.cells = some c1.cells ∧ (c1.leaf = true ∨ ∃ ds, c1 = .agg ds) := by
          rcases hf c (List.mem_cons_self ..) with hc | ⟨ds, rfl⟩
          · have := (ren_leaf h4).1
            rw [cells_leaf hc, cells_leaf (this.trans hc)]
            exact ⟨by simp [rens, h4], .inl (this.trans hc)⟩
          · simp only [V.ren, Option.map_eq_some_iff] at h4
            obtain ⟨ds', h6, rfl⟩ := h4
            exact ⟨h6, .inr ⟨_, rfl⟩⟩
        refine ⟨?_, fun v hv => ?_⟩
        · rw [List.flatMap_cons, List.flatMap_cons]; exact rens_append hc.1 i1
        · rcases List.mem_cons.1 hv with rfl | hv
          · exact hc.2
          · exact i2 v hv
theorem rens_same {f : Nat → Option Nat} : ∀ {cs : List V}, (∀ u ∈ cs, V.ren f u = some u) → rens f cs = some cs
  | [], _ => rfl
  | c :: cs, h => by
    have h1 := h c (by simp)
    have h2 := rens_same fun u hu => h u (List.mem_cons_of_mem _ hu)
    simp [rens, h1, h2]
theorem relI_ren {imm : Nat → Nat → Prop} {H : Array Go.Obj} {f : Nat → Option Nat} {v : V} {x : Value} (h : RelI imm H v x) : V.ren f v = some v := by
  induction h with
  | agg cs xs hn _ ih =>
    suffices h : rens f cs = some cs by simp [V.ren, h]
    have hall : ∀ u ∈ cs, V.ren f u = some u := by
      intro u hu
      obtain ⟨i, hi, rfl⟩ := List.getElem_of_mem hu
      exact ih i _ _ (List.getElem?_eq_getElem hi) (Array.getElem?_eq_getElem (hn ▸ hi))
    exact rens_same hall
  | _ => simp [V.ren]
def subTag (ids : List Nat) (N : Nat) : Tag → Tag
  | .obj o => match findIdx ids o with | some k => .obj k | none => .other
  | .home (.obj o i) => match findIdx ids o with | some k => .home (.obj k i) | none => .other
  | .home (.slot s i) => if N ≤ s then .home (.slot (s - N) i) else .other
  | .tail (.obj o i) m => match findIdx ids o with | some k => .tail (.obj k i) m | none => .lent m
  | .tail (.slot s i) m => if N ≤ s then .tail (.slot (s - N) i) m else .lent m
  | t => t
def Env.sub (E : Env) (ids : List Nat) (N : Nat) : Env := { tag := fun b => subTag ids N (E.tag b), addr := fun k => E.addr (ids.getD k 0) }
section
variable {n N : Nat} {E E' : Env} {slots slots' : List V} {objs objs' : List (Option Obj)} {vals vals' : List Value} {H : Array Go.Obj} {ids : List Nat}
theorem Env.sub_imm {b i : Nat} (h : E.imm b i) : (E.sub ids N).imm b i := by
  simp only [Env.imm, Env.sub] at h ⊢
  cases ht : E.tag b with
  | other => simp [ht] at h
  | imm => simp [subTag]
  | obj o => simp [ht] at h
  | home hh => simp [ht] at h
  | lent m => simp [ht] at h; simpa [subTag] using h
  | tail hh m =>
    simp only [ht] at h
    cases hh with
    | slot s j => by_cases hN : N ≤ s <;> simp only [subTag, hN, if_true, if_false] <;> exact h
    | obj o j => cases hf : findIdx ids o <;> simp only [subTag, hf] <;> exact h
theorem findIdx_get {o k : Nat} (h : findIdx ids o = some k) : ids[k]? = some o := by
  unfold findIdx at h
  rw [List.idxOf?_eq_some_iff] at h
  obtain ⟨hk, he, _⟩ := h
  rw [List.getElem?_eq_getElem hk, he]
theorem get_findIdx {o k : Nat} (hn : ids.Nodup) (h : ids[k]? = some o) : findIdx ids o = some k := by
  unfold findIdx
  rw [List.idxOf?_eq_some_iff]
  have hk := lt_of_getElem? h
  rw [List.getElem?_eq_getElem hk] at h
  cases h
  refine ⟨hk, rfl, fun j hj e => ?_⟩
  have := (List.getElem_inj (h₀ := by omega) (h₁ := hk) hn).1 e
  omega
def NamesOk (ids : List Nat) (objs' : List (Option Obj)) : Prop := ∀ o k, findIdx ids o = some k → alive objs' k
theorem sub_c1 (H : Array Go.Obj) : ∀ b i, E.imm b i → (E.sub ids N).imm b i ∧ cellAt H b i = cellAt H b i := fun _ _ h => ⟨Env.sub_imm h, rfl⟩
theorem sub_addr {o k : Nat} (h : findIdx ids o = some k) : (E.sub ids N).addr k = E.addr o := by
  have := findIdx_get h
  simp only [Env.sub, List.getD_eq_getElem?_getD, this, Option.getD_some]
theorem RelC.sub (hno : NamesOk ids objs') {v v' : V} {x : Value} (h : RelC E objs H v x) (hr : V.ren (findIdx ids) v = some v') : RelC (E.sub ids N) objs' H v' x := by
  induction h generalizing v' with
  | imm v x h hl =>
    rw [relI_ren h] at hr; cases hr
    exact .imm v x (h.mono (sub_c1 H)) hl
  | ptr o off hl =>
    simp only [V.ren, Ref.ren, Option.map_eq_some_iff] at hr
    obtain ⟨r, ⟨k, hk, rfl⟩, rfl⟩ := hr
    rw [← sub_addr (E := E) (N := N) hk]; exact .ptr k off (hno o k hk)
  | map o hl =>
    simp only [V.ren, Option.map_eq_some_iff] at hr
    obtain ⟨k, hk, rfl⟩ := hr
    rw [← sub_addr (E := E) (N := N) hk]; exact .map k (hno o k hk)
  | iptr cs ad hs h =>
    simp only [V.ren, Option.some.injEq] at hr
    subst hr
    refine .iptr cs ad hs fun j v hj => ?_
    obtain ⟨e0, y, e1, e2, e3⟩ := h j v hj
    exact ⟨e0, y, (sub_c1 H _ _ e1).1, e2, e3.mono (sub_c1 H)⟩
  | func f cs xs hn h ih =>
    simp only [V.ren, Option.map_eq_some_iff] at hr
    obtain ⟨cs', hcs, rfl⟩ := hr
    obtain ⟨g1, g2⟩ := rens_get hcs
    refine .func f cs' xs (g1.trans hn) fun i v x hv hx => ?_
    obtain ⟨u, hu⟩ := exists_getElem? (l := cs) (i := i) (by have := lt_of_getElem? hv; omega)
    exact ih i u x hu hx (g2 i u v hu hv)
theorem RelV.sub {h h' : Home} {u u' : V} {y : Value} (hno : NamesOk ids objs') (hR : RelV E slots objs vals H h u y) (hr : V.ren (findIdx ids) u = some u')
    (hv : ∀ hh g sz i off, u = .ptr (.elem hh g sz i off) → valid slots objs hh g sz)
    (ht : u.own = true → ∀ b, (E.tag b = .home h → (E.sub ids N).tag b = .home h') ∧ ∀ m, E.tag b = .tail h m → (E.sub ids N).tag b = .tail h' m) : RelV (E.sub ids N) slots' objs' vals' H h' u' y := by
  cases u <;> simp only [V.ren, Option.some.injEq, reduceCtorEq, Option.map_eq_some_iff] at hr
  case xsl g sz es =>
    subst hr
    obtain ⟨a, cap, h1, h2, h3, h4, h5, h6⟩ := hR
    refine ⟨a, cap, h1, h2, h3, h4, fun hc => ?_, h6.mono (sub_c1 H) (fun _ _ => rfl)⟩
    obtain ⟨ad, arr, T, f, e1, e2, e3, e4, e5⟩ := h5 hc
    exact ⟨ad, arr, T, f, e1, (ht rfl _).1 e2, e3, e4, e5⟩
  case fsl g sz es =>
    subst hr
    obtain ⟨a, cap, h1, h2, h3, h4, h5, h6⟩ := hR
    refine ⟨a, cap, h1, h2, h3, h4, fun hc => ?_, h6.mono (sub_c1 H) (fun _ _ => rfl)⟩
    obtain ⟨ad, arr, T, f, e1, e2, e3, e4, e5⟩ := h5 hc
    exact ⟨ad, arr, T, f, e1, (ht rfl _).2 _ e2, e3, e4, e5⟩
  case csl sz es => subst hr; exact ⟨hR.1.mono (sub_c1 H), hR.2⟩
  case ptr r =>
    obtain ⟨r', hr, rfl⟩ := hr
    cases r with
    | obj o off =>
      simp only [Ref.ren, Option.map_eq_some_iff] at hr
      obtain ⟨k, hk, rfl⟩ := hr
      exact ⟨by rw [sub_addr hk]; exact hR.1, hno o k hk⟩
    | elem hh g sz i off =>
      simp only [Ref.ren, Option.map_eq_some_iff] at hr
      obtain ⟨h2, hk, rfl⟩ := hr
      obtain ⟨ad', e0, hR⟩ := hR
      obtain ⟨ad, l, c, e1, e2⟩ := hR (hv _ _ _ _ _ rfl)
      refine ⟨ad', e0, fun _ => ⟨ad, l, c, ?_, e2⟩⟩
      cases hh with
      | slot s j => cases hk
      | obj o j =>
        simp only [Home.ren, Option.map_eq_some_iff] at hk
        obtain ⟨k, hk, rfl⟩ := hk
        simp only [hd, sub_addr hk]; exact e1
  case iptr cs =>
    subst hr
    obtain ⟨ad, h1, hs, h2⟩ := hR
    refine ⟨ad, h1, hs, fun j v hj => ?_⟩
    obtain ⟨e0, y, e1, e2, e3⟩ := h2 j v hj
    exact ⟨e0, y, Env.sub_imm e1, e2, e3.mono (sub_c1 H)⟩
  case gone => subst hr; trivial
  case func f cs =>
    obtain ⟨cs', hcs, rfl⟩ := hr
    exact RelC.sub hno hR (by simp [V.ren, hcs])
  case map o =>
    obtain ⟨k, hk, rfl⟩ := hr
    exact ⟨by rw [sub_addr hk]; exact hR.1, hno o k hk⟩
  case agg => exact hR.elim
  case tup => exact hR.elim
  all_goals (subst hr; exact RelI.mono (sub_c1 H) hR)
theorem zero1_rel {h : Home} {u : V} {y : Value} (hR : RelV E slots objs vals H h u y) : RelV E slots objs vals H h (zero1 u) y := by
  cases u <;> first | exact hR | skip
  case isl g sz es =>
    simp only [RelV, zero1] at hR ⊢
    cases hR with
    | isl _ _ _ a cap xs hc ha hsp hz hx h => exact .isl _ _ _ a cap xs hc ha hsp hz hx h
theorem zero1_leaf {u : V} : (zero1 u).leaf = u.leaf ∧ (zero1 u).own = u.own ∧ (zero1 u).inObj = u.inObj := by cases u <;> exact ⟨rfl, rfl, rfl⟩
theorem ren_inObj {f : Nat → Option Nat} {u u' : V} (h : V.ren f u = some u') (hi : u.inObj = true) : u'.inObj = true := by
  cases u <;> simp only [V.ren, Option.some.injEq, reduceCtorEq, Option.map_eq_some_iff] at h
  case ptr r =>
    obtain ⟨r', hr, rfl⟩ := h
    cases r with
    | obj o off => simp only [Ref.ren, Option.map_eq_some_iff] at hr; obtain ⟨k, _, rfl⟩ := hr; rfl
    | elem => simp [V.inObj] at hi
  all_goals first
    | (subst h; exact hi)
    | (obtain ⟨_, _, rfl⟩ := h; first | rfl | (simp [V.inObj] at hi))
theorem Core.sub {hs hs' : List V} {xs : List Value} (hC : Core n E (slots ++ hs) objs (vals ++ xs) H) (hl : slots.length = vals.length) (hnd : ids.Nodup) (hlen : objs'.length = ids.length)
    (hobj : ∀ (k o : Nat), ids[k]? = some o → ∃ cs cs', objs[o]? = some (some (.cells cs)) ∧ objs'[k]? = some (some (.cells cs')) ∧ rens (findIdx ids) (cs.map zero1) = some cs')
    (hh : rens (findIdx ids) hs = some hs') (hval : ∀ v ∈ hs, ∀ u ∈ v.leaves, ∀ h g sz i off, u = .ptr (.elem h g sz i off) → valid (slots ++ hs) objs h g sz) :
    Core 0 (E.sub ids slots.length) hs' objs' xs H := by
  have hno : NamesOk ids objs' := by
    intro o k hk
    obtain ⟨cs, cs', h1, h2, h3⟩ := hobj k o (findIdx_get hk)
    exact ⟨_, h2⟩
  obtain ⟨g1, g2⟩ := rens_get hh
  have hxl : hs.length = xs.length := by have := hC.len; simp [hl] at this; exact this
  have hback : ∀ (k : Nat) (v' : V), hs'[k]? = some v' → ∃ v, hs[k]? = some v ∧ (slots ++ hs)[slots.length + k]? = some v ∧ V.ren (findIdx ids) v = some v' := by
    intro k v' hv'
    obtain ⟨v, hv⟩ := exists_getElem? (l := hs) (i := k) (by have := lt_of_getElem? hv'; omega)
    exact ⟨v, hv, by rw [List.getElem?_append_right (by omega), Nat.add_sub_cancel_left]; exact hv, g2 k v v' hv hv'⟩
  refine ⟨g1.trans hxl, Nat.zero_le _, fun k v' x hv' hx => ?_, fun k cs' hk => ?_, fun b hb => ?_, fun k v' hv' r hr => ?_⟩
  · obtain ⟨v, hv, hv2, hren⟩ := hback k v' hv'
    have hS := hC.slot (slots.length + k) v x hv2 (by rw [List.getElem?_append_right (by omega), hl, Nat.add_sub_cancel_left]; exact hx)
    obtain ⟨l1, l2⟩ := ren_leaves hS.formed hren
    obtain ⟨q1, q2⟩ := rens_get l1
    refine ⟨?_, fun i u' y hu' hy => ?_⟩
    · -- the shape
      obtain ⟨r1, r2⟩ := ren_leaf hren
      by_cases hlf : v.leaf = true
      · by_cases hg : ∃ g, v = .gone g
        · obtain ⟨g, rfl⟩ := hg
          simp only [V.ren, Option.some.injEq] at hren; subst hren; trivial
        · exact shape_leaf (r1.trans hlf) (leaf_shape hlf (fun g e => hg ⟨g, e⟩) hS.1)
      · simp only [Bool.not_eq_true] at hlf
        rcases r2 hlf with ⟨cs, cs', rfl, rfl, h3⟩ | ⟨cs, cs', rfl, rfl, h3⟩
        · obtain ⟨ys, rfl, h4⟩ := hS.1
          exact ⟨ys, rfl, (rens_get h3).1.trans h4⟩
        · obtain ⟨ys, rfl, h4, h5⟩ := hS.1
          obtain ⟨m1, m2⟩ := rens_get h3
          refine ⟨ys, rfl, m1.trans h4, fun i c' z hc' hz => ?_⟩
          obtain ⟨c, hc⟩ := exists_getElem? (l := cs) (i := i) (by have := lt_of_getElem? hc'; omega)
          have h6 := h5 i c z hc hz
          have h7 := m2 i c c' hc hc'
          obtain ⟨s1, s2⟩ := ren_leaf h7
          by_cases hcl : c.leaf = true
          · exact (shape1_leaf (s1.trans hcl)).2 ((shape1_leaf hcl).1 h6)
          · simp only [Bool.not_eq_true] at hcl
            rcases s2 hcl with ⟨ds, ds', rfl, rfl, h8⟩ | ⟨ds, ds', rfl, rfl, h8⟩
            · obtain ⟨zs, rfl, h9⟩ := h6
              exact ⟨zs, rfl, (rens_get h8).1.trans h9⟩
            · exact h6.elim
    · obtain ⟨u, hu⟩ := exists_getElem? (l := v.leaves) (i := i) (by have := lt_of_getElem? hu'; omega)
      refine (hS.2 i u y hu hy).sub hno (q2 i u u' hu hu') (fun hh g sz i off e => hval v (List.mem_of_getElem? hv) u (List.mem_of_getElem? hu) hh g sz i off e) (fun _ b => ⟨fun hb => ?_, fun m hb => ?_⟩)
      · simp only [Env.sub, hb, subTag]; rw [if_pos (by omega), Nat.add_sub_cancel_left]
      · simp only [Env.sub, hb, subTag]; rw [if_pos (by omega), Nat.add_sub_cancel_left]
  · have hklt := lt_of_getElem? hk
    obtain ⟨o, ho⟩ := exists_getElem? (l := ids) (i := k) (by omega)
    obtain ⟨cs, cs2, h1, h2, h3⟩ := hobj k o ho
    rw [hk] at h2; cases h2
    have hfi := get_findIdx hnd ho
    obtain ⟨arr, T, f, b1, b2, b3, b4, b5, b6⟩ := hC.obj o cs h1
    obtain ⟨q1, q2⟩ := rens_get h3
    rw [List.length_map] at q1
    have hz : ∀ (i : Nat) (u' : V), cs'[i]? = some u' → ∃ u, cs[i]? = some u ∧ V.ren (findIdx ids) (zero1 u) = some u' := by
      intro i u' hu'
      obtain ⟨u, hu⟩ := exists_getElem? (l := cs) (i := i) (by have := lt_of_getElem? hu'; omega)
      exact ⟨u, hu, q2 i (zero1 u) u' (by rw [List.getElem?_map, hu]; rfl) hu'⟩
    refine ⟨arr, T, f, by rw [sub_addr hfi]; exact b1, ?_, b3.trans q1.symm, b4, fun i u' y hu' hy => ?_, fun u' hu' => ?_⟩
    · rw [sub_addr hfi]; simp only [Env.sub, b2, subTag, hfi]
    · obtain ⟨u, hu, hren⟩ := hz i u' hu'
      refine (zero1_rel (b5 i u y hu hy)).sub hno hren (fun hh g sz i off e => ?_) (fun _ b => ⟨fun hb => ?_, fun m hb => ?_⟩)
      · have := b6 u (List.mem_of_getElem? hu)
        rw [← zero1_leaf.2.2, e] at this; simp [V.inObj] at this
      · simp only [Env.sub, hb, subTag, hfi]
      · simp only [Env.sub, hb, subTag, hfi]
    · obtain ⟨i, hi⟩ := List.mem_iff_getElem?.1 hu'
      obtain ⟨u, hu, hren⟩ := hz i u' hi
      exact ren_inObj hren (by rw [zero1_leaf.2.2]; exact b6 u (List.mem_of_getElem? hu))
  · simp only [Env.sub, hC.fresh b hb, subTag]
  · obtain ⟨v, hv, hv2, hren⟩ := hback k v' hv'
    obtain ⟨xk, hxk⟩ := exists_getElem? (l := xs) (i := k) (by have := lt_of_getElem? hv; omega)
    have hS := hC.slot (slots.length + k) v xk hv2 (by rw [List.getElem?_append_right (by omega), hl, Nat.add_sub_cancel_left]; exact hxk)
    obtain ⟨l1, l2⟩ := ren_leaves hS.formed hren
    obtain ⟨q1, q2⟩ := rens_get l1
    rw [V.refs, List.mem_flatMap] at hr
    obtain ⟨u', hu', hr⟩ := hr
    obtain ⟨i, hi⟩ := List.mem_iff_getElem?.1 hu'
    obtain ⟨u, hu⟩ := exists_getElem? (l := v.leaves) (i := i) (by have := lt_of_getElem? hi; omega)
    have hru := q2 i u u' hu hi
    cases u <;> simp only [V.ren, Option.some.injEq, reduceCtorEq, Option.map_eq_some_iff] at hru <;> first
      | (subst hru; simp [V.refs1] at hr; done)
      | (obtain ⟨_, _, rfl⟩ := hru; simp [V.refs1] at hr; done)
      | skip
    rename_i rr
    obtain ⟨r', hr', rfl⟩ := hru
    cases rr with
    | obj o off => simp only [Ref.ren, Option.map_eq_some_iff] at hr'; obtain ⟨kk, _, rfl⟩ := hr'; simp [V.refs1] at hr
    | elem hh g sz j off =>
      simp only [Ref.ren, Option.map_eq_some_iff] at hr'
      obtain ⟨h2, hk, rfl⟩ := hr'
      simp only [V.refs1, List.mem_singleton] at hr
      subst hr
      have hvl := hval v (List.mem_of_getElem? hv) _ (List.mem_of_getElem? hu) hh g sz j off rfl
      cases hh with
      | slot s j => cases hk
      | obj o x =>
        simp only [Home.ren, Option.map_eq_some_iff] at hk
        obtain ⟨kk, hk, rfl⟩ := hk
        refine ⟨(fun t i e => by cases e), ?_⟩
        obtain ⟨w, hw, hgen⟩ := hvl
        obtain ⟨cs, cs', h1, h2, h3⟩ := hobj kk o (findIdx_get hk)
        simp only [ct, h1] at hw
        obtain ⟨q3, q4⟩ := rens_get h3
        rw [List.length_map] at q3
        obtain ⟨w', hw'⟩ := exists_getElem? (l := cs') (i := x) (by have := lt_of_getElem? hw; omega)
        have hrw := q4 x (zero1 w) w' (by rw [List.getElem?_map, hw]; rfl) hw'
        refine ⟨w', by simp only [ct, h2]; exact hw', ?_⟩
        cases w <;> simp only [V.gen?, reduceCtorEq] at hgen <;> (simp only [zero1, V.ren, Option.some.injEq] at hrw; subst hrw; simp [V.nextg])
end
end Go.Vq
namespace Go.Vq
def backTag (all : List Nat) (N : Nat) (t1 old : Tag) : Tag → Tag
  | .obj k => match all[k]? with | some o => .obj o | none => .other
  | .home (.obj k i) => match all[k]? with | some o => .home (.obj o i) | none => .other
  | .home (.slot s i) => if s = 0 then .home (.slot N i) else .other
  | .tail (.obj k i) m => match all[k]? with | some o => .tail (.obj o i) m | none => .lent m
  | .tail (.slot s i) m => if s = 0 then .tail (.slot N i) m else .lent m
  | .imm => .imm
  | .lent m => match t1 with | .lent _ => old | _ => .lent m
  | .other => match t1 with | .other => old | _ => .other
def Env.back (E E1 E2 : Env) (all : List Nat) (N : Nat) : Env :=
  { tag := fun b => backTag all N (E1.tag b) (E.tag b) (E2.tag b), addr := fun o => match findIdx all o with | some k => E2.addr k | none => E.addr o }
section
variable {n N : Nat} {E E' E2 : Env} {slots slots' : List V} {objs objs' objs2 objs3 : List (Option Obj)} {vals vals' : List Value} {H H2 : Array Go.Obj} {ids all : List Nat}
theorem RelC.rename {f : Nat → Option Nat} (c1 : ∀ b i, E.imm b i → E'.imm b i) (ha : ∀ o k, f o = some k → E'.addr k = E.addr o ∧ alive objs' k) {v v' : V} {x : Value} (h : RelC E objs H v x) (hr : V.ren f v = some v') : RelC E' objs' H v' x := by
  induction h generalizing v' with
  | imm v x h hl =>
    rw [relI_ren h] at hr; cases hr
    exact .imm v x (h.mono fun b i hi => ⟨c1 b i hi, rfl⟩) hl
  | ptr o off hl =>
    simp only [V.ren, Ref.ren, Option.map_eq_some_iff] at hr
    obtain ⟨r, ⟨k, hk, rfl⟩, rfl⟩ := hr
    rw [← (ha o k hk).1]; exact .ptr k off (ha o k hk).2
  | map o hl =>
    simp only [V.ren, Option.map_eq_some_iff] at hr
    obtain ⟨k, hk, rfl⟩ := hr
    rw [← (ha o k hk).1]; exact .map k (ha o k hk).2
  | iptr cs ad hs h =>
    simp only [V.ren, Option.some.injEq] at hr
    subst hr
    refine .iptr cs ad hs fun j v hj => ?_
    obtain ⟨e0, y, e1, e2, e3⟩ := h j v hj
    exact ⟨e0, y, c1 _ _ e1, e2, e3.mono fun b i hi => ⟨c1 b i hi, rfl⟩⟩
  | func f cs xs hn h ih =>
    simp only [V.ren, Option.map_eq_some_iff] at hr
    obtain ⟨cs', hcs, rfl⟩ := hr
    obtain ⟨g1, g2⟩ := rens_get hcs
    refine .func f cs' xs (g1.trans hn) fun i v x hv hx => ?_
    obtain ⟨u, hu⟩ := exists_getElem? (l := cs) (i := i) (by have := lt_of_getElem? hv; omega)
    exact ih i u x hu hx (g2 i u v hu hv)
theorem RelV.rename {f : Nat → Option Nat} {h h' : Home} {u u' : V} {y : Value} (c1 : ∀ b i, E.imm b i → E'.imm b i) (ha : ∀ o k, f o = some k → E'.addr k = E.addr o ∧ alive objs' k) (hR : RelV E slots objs vals H h u y) (hr : V.ren f u = some u')
    (hv : ∀ o j g sz i off, u = .ptr (.elem (.obj o j) g sz i off) → ∀ k, f o = some k → valid slots' objs' (.obj k j) 0 sz → valid slots objs (.obj o j) g sz)
    (ht : u.own = true → ∀ b, (E.tag b = .home h → E'.tag b = .home h') ∧ ∀ m, E.tag b = .tail h m → E'.tag b = .tail h' m) : RelV E' slots' objs' vals' H h' u' y := by
  have c1' : ∀ b i, E.imm b i → E'.imm b i ∧ cellAt H b i = cellAt H b i := fun b i hi => ⟨c1 b i hi, rfl⟩
  cases u <;> simp only [V.ren, Option.some.injEq, reduceCtorEq, Option.map_eq_some_iff] at hr
  case xsl g sz es =>
    subst hr
    obtain ⟨a, cap, h1, h2, h3, h4, h5, h6⟩ := hR
    refine ⟨a, cap, h1, h2, h3, h4, fun hc => ?_, h6.mono c1' (fun _ _ => rfl)⟩
    obtain ⟨ad, arr, T, f, e1, e2, e3, e4, e5⟩ := h5 hc
    exact ⟨ad, arr, T, f, e1, (ht rfl _).1 e2, e3, e4, e5⟩
  case fsl g sz es =>
    subst hr
    obtain ⟨a, cap, h1, h2, h3, h4, h5, h6⟩ := hR
    refine ⟨a, cap, h1, h2, h3, h4, fun hc => ?_, h6.mono c1' (fun _ _ => rfl)⟩
    obtain ⟨ad, arr, T, f, e1, e2, e3, e4, e5⟩ := h5 hc
    exact ⟨ad, arr, T, f, e1, (ht rfl _).2 _ e2, e3, e4, e5⟩
  case csl sz es => subst hr; exact ⟨hR.1.mono c1', hR.2⟩
  case ptr r =>
    obtain ⟨r', hr, rfl⟩ := hr
    cases r with
    | obj o off =>
      simp only [Ref.ren, Option.map_eq_some_iff] at hr
      obtain ⟨k, hk, rfl⟩ := hr
      exact ⟨by rw [(ha o k hk).1]; exact hR.1, (ha o k hk).2⟩
    | elem hh g sz i off =>
      simp only [Ref.ren, Option.map_eq_some_iff] at hr
      obtain ⟨h2, hk, rfl⟩ := hr
      cases hh with
      | slot s j => cases hk
      | obj o j =>
        simp only [Home.ren, Option.map_eq_some_iff] at hk
        obtain ⟨k, hk, rfl⟩ := hk
        obtain ⟨ad', e0, hR⟩ := hR
        refine ⟨ad', e0, fun hvl => ?_⟩
        obtain ⟨ad, l, c, e1, e2⟩ := hR (hv o j g sz i off rfl k hk hvl)
        refine ⟨ad, l, c, ?_, e2⟩
        simp only [hd, (ha o k hk).1]; exact e1
  case iptr cs =>
    subst hr
    obtain ⟨ad, h1, hs, h2⟩ := hR
    refine ⟨ad, h1, hs, fun j v hj => ?_⟩
    obtain ⟨e0, y, e1, e2, e3⟩ := h2 j v hj
    exact ⟨e0, y, c1 _ _ e1, e2, e3.mono c1'⟩
  case gone => subst hr; trivial
  case func f cs =>
    obtain ⟨cs', hcs, rfl⟩ := hr
    exact RelC.rename c1 ha hR (by simp [V.ren, hcs])
  case map o =>
    obtain ⟨k, hk, rfl⟩ := hr
    exact ⟨by rw [(ha o k hk).1]; exact hR.1, (ha o k hk).2⟩
  case agg => exact hR.elim
  case tup => exact hR.elim
  all_goals (subst hr; exact RelI.mono c1' hR)
theorem shape_ren {f : Nat → Option Nat} {v v' : V} {x : Value} (hren : V.ren f v = some v') (hS : Shape v x) : Shape v' x := by
  obtain ⟨r1, r2⟩ := ren_leaf hren
  by_cases hlf : v.leaf = true
  · by_cases hg : ∃ g, v = .gone g
    · obtain ⟨g, rfl⟩ := hg
      simp only [V.ren, Option.some.injEq] at hren; subst hren; trivial
    · exact shape_leaf (r1.trans hlf) (leaf_shape hlf (fun g e => hg ⟨g, e⟩) hS)
  · simp only [Bool.not_eq_true] at hlf
    rcases r2 hlf with ⟨cs, cs', rfl, rfl, h3⟩ | ⟨cs, cs', rfl, rfl, h3⟩
    · obtain ⟨ys, rfl, h4⟩ := hS
      exact ⟨ys, rfl, (rens_get h3).1.trans h4⟩
    · obtain ⟨ys, rfl, h4, h5⟩ := hS
      obtain ⟨m1, m2⟩ := rens_get h3
      refine ⟨ys, rfl, m1.trans h4, fun i c' z hc' hz => ?_⟩
      obtain ⟨c, hc⟩ := exists_getElem? (l := cs) (i := i) (by have := lt_of_getElem? hc'; omega)
      have h6 := h5 i c z hc hz
      have h7 := m2 i c c' hc hc'
      obtain ⟨s1, s2⟩ := ren_leaf h7
      by_cases hcl : c.leaf = true
      · exact (shape1_leaf (s1.trans hcl)).2 ((shape1_leaf hcl).1 h6)
      · simp only [Bool.not_eq_true] at hcl
        rcases s2 hcl with ⟨ds, ds', rfl, rfl, h8⟩ | ⟨ds, ds', rfl, rfl, h8⟩
        · obtain ⟨zs, rfl, h9⟩ := h6
          exact ⟨zs, rfl, (rens_get h8).1.trans h9⟩
        · exact h6.elim
theorem back_old {b : Nat} {t : Tag} (hG : Grow ids.length (E.sub ids N) H E2 H2) (ht : E.tag b = t) (hb : b < H.size) (hs : subTag ids N t = .other ∨ subTag ids N t = .imm ∨ ∃ m, subTag ids N t = .lent m) (hi : t ≠ .imm → subTag ids N t ≠ .imm) :
    (E.back (E.sub ids N) E2 all N).tag b = t ∧ H2[b]? = H[b]? := by
  have e1 : (E.sub ids N).tag b = subTag ids N t := by simp only [Env.sub, ht]
  rcases hs with h | h | ⟨m, h⟩
  · obtain ⟨g1, g2⟩ := hG.other b hb (e1.trans h)
    exact ⟨by simp only [Env.back, g1, backTag, e1, h, ht], g2⟩
  · obtain ⟨g1, g2⟩ := hG.immT b (e1.trans h)
    have : t = .imm := Classical.byContradiction fun hne => hi hne h
    exact ⟨by simp only [Env.back, g1, backTag, this], g2⟩
  · obtain ⟨g1, g2⟩ := hG.lentT b m (e1.trans h)
    exact ⟨by simp only [Env.back, g1, backTag, e1, h, ht], g2⟩
theorem back_imm2 (hG : Grow ids.length (E.sub ids N) H E2 H2) {b i : Nat} (h : E2.imm b i) : (E.back (E.sub ids N) E2 all N).imm b i := by
  simp only [Env.imm, Env.back] at h ⊢
  cases ht : E2.tag b with
  | other => simp [ht] at h
  | imm => simp [backTag]
  | obj o => simp [ht] at h
  | home hh => simp [ht] at h
  | tail hh m =>
    simp only [ht] at h
    cases hh with
    | slot s j => by_cases hN : s = 0 <;> simp only [backTag, hN, if_true, if_false] <;> exact h
    | obj o j => cases hf : all[o]? <;> simp only [backTag, hf] <;> exact h
  | lent m =>
    simp only [ht] at h
    cases h1 : (E.sub ids N).tag b with
    | lent m1 =>
      have := (hG.lentT b m1 h1).1
      rw [ht] at this; cases this
      simp only [backTag]
      simp only [Env.sub] at h1
      cases h0 : E.tag b with
      | lent m0 => simp only [h0, subTag] at h1; cases h1; exact h
      | tail hh m0 =>
        simp only [h0] at h1
        cases hh with
        | slot s j => simp only [subTag] at h1; split at h1 <;> first | (cases h1; done) | (cases h1; exact h)
        | obj o j => simp only [subTag] at h1; split at h1 <;> first | (cases h1; done) | (cases h1; exact h)
      | home hh =>
        simp only [h0] at h1
        cases hh with
        | slot s j => simp only [subTag] at h1; split at h1 <;> cases h1
        | obj o j => simp only [subTag] at h1; split at h1 <;> cases h1
      | obj o => simp only [h0, subTag] at h1; split at h1 <;> cases h1
      | imm => trivial
      | other => simp only [h0, subTag] at h1; cases h1
    | _ => simp only [backTag]; exact h
theorem back_imm1 (hG : Grow ids.length (E.sub ids N) H E2 H2) (b i : Nat) (h : E.imm b i) : (E.back (E.sub ids N) E2 all N).imm b i ∧ cellAt H2 b i = cellAt H b i := by
  obtain ⟨g1, g2⟩ := hG.imm b i (Env.sub_imm h)
  exact ⟨back_imm2 hG g1, g2⟩
end
end Go.Vq
