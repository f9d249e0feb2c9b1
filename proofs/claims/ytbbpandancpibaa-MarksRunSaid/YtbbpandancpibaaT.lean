/- The V-level machine, run on values that are not known (no law of Go is stated here). -/
import Derived.Test.YtbbpandancpibaaE
import Derived.KernelRfl
set_option linter.unusedVariables false
set_option linter.unusedSimpArgs false
set_option linter.unusedSectionVars false
/- The V-level machine without a purse: what calls come to in the end (no law of Go is stated here). -/
namespace Go.Vq
/-! ### programs that hand over once -/
def Fac {α : Type} (p : (α → Prog) → Prog) : Prop := ∀ σ, (∀ K, (p K).run σ = none) ∨ ∃ a σ' rs ws, ∀ K, (p K).run σ = (K a).run σ' ∧ (p K).foot σ = (rs ++ ((K a).foot σ').1, ws ++ ((K a).foot σ').2)
section
variable {α β : Type}
theorem Fac.k (a : α) : Fac fun K => K a := fun σ => .inr ⟨a, σ, [], [], fun _ => ⟨rfl, rfl⟩⟩
theorem Fac.fail : Fac fun (_ : α → Prog) => Prog.fail := fun _ => .inl fun _ => rfl
theorem Fac.getS {s : Nat} {p : V → (α → Prog) → Prog} (h : ∀ v, Fac (p v)) : Fac fun K => Prog.getS s fun v => p v K := fun σ => by
  rcases h (σ.slot s) σ with h1 | ⟨a, σ', rs, ws, h1⟩
  · exact .inl fun K => h1 K
  · exact .inr ⟨a, σ', .slot s :: rs, ws, fun K => ⟨(h1 K).1, by simp only [Prog.foot, (h1 K).2, List.cons_append]⟩⟩
theorem Fac.getO {s : Nat} {p : Option Obj → (α → Prog) → Prog} (h : ∀ v, Fac (p v)) : Fac fun K => Prog.getO s fun v => p v K := fun σ => by
  rcases h (σ.obj s) σ with h1 | ⟨a, σ', rs, ws, h1⟩
  · exact .inl fun K => h1 K
  · exact .inr ⟨a, σ', .obj s :: rs, ws, fun K => ⟨(h1 K).1, by simp only [Prog.foot, (h1 K).2, List.cons_append]⟩⟩
theorem Fac.setS {s : Nat} {v : V} {p : (α → Prog) → Prog} (h : Fac p) : Fac fun K => Prog.setS s v (p K) := fun σ => by
  rcases h (σ.setS s v) with h1 | ⟨a, σ', rs, ws, h1⟩
  · exact .inl fun K => h1 K
  · exact .inr ⟨a, σ', rs, .slot s :: ws, fun K => ⟨(h1 K).1, by simp only [Prog.foot, (h1 K).2, List.cons_append]⟩⟩
theorem Fac.setO {s : Nat} {v : Option Obj} {p : (α → Prog) → Prog} (h : Fac p) : Fac fun K => Prog.setO s v (p K) := fun σ => by
  by_cases hs : s < σ.objs.length
  · rcases h (σ.setO s v) with h1 | ⟨a, σ', rs, ws, h1⟩
    · exact .inl fun K => by simp only [Prog.run, if_pos hs]; exact h1 K
    · exact .inr ⟨a, σ', rs, .obj s :: ws, fun K => ⟨by simp only [Prog.run, if_pos hs]; exact (h1 K).1, by simp only [Prog.foot, (h1 K).2, List.cons_append]⟩⟩
  · exact .inl fun K => by simp only [Prog.run, if_neg hs]
theorem Fac.bind {p : (β → Prog) → Prog} {q : β → (α → Prog) → Prog} (hp : Fac p) (hq : ∀ b, Fac (q b)) : Fac fun K => p fun b => q b K := fun σ => by
  rcases hp σ with h1 | ⟨b, σ', rs, ws, h1⟩
  · exact .inl fun K => h1 _
  · rcases hq b σ' with h2 | ⟨a, σ2, rs2, ws2, h2⟩
    · exact .inl fun K => by rw [(h1 _).1]; exact h2 K
    · exact .inr ⟨a, σ2, rs ++ rs2, ws ++ ws2, fun K => ⟨by rw [(h1 _).1]; exact (h2 K).1, by rw [(h1 _).2, (h2 K).2]; simp only [List.append_assoc]⟩⟩
theorem Fac.ite {c : Prop} [Decidable c] {p q : (α → Prog) → Prog} (hp : Fac p) (hq : Fac q) : Fac fun K => if c then p K else q K := by
  by_cases h : c
  · simp only [if_pos h]; exact hp
  · simp only [if_neg h]; exact hq
theorem Fac.map {p : (β → Prog) → Prog} (hp : Fac p) (f : β → α) : Fac fun (K : α → Prog) => p fun b => K (f b) := Fac.bind hp fun b => Fac.k (f b)
end
theorem fac_gOpd (x : Opd) : Fac (gOpd x) := by
  cases x with
  | tmp t => exact Fac.getS fun v => Fac.k v
  | val v => exact Fac.k v
theorem fac_gHome (h : Home) : Fac (gHome h) := by
  cases h with
  | slot s off =>
    refine Fac.getS fun v => ?_
    split
    · exact Fac.k _
    · exact Fac.fail
  | obj o off =>
    refine Fac.getO fun v => ?_
    split
    · split
      · exact Fac.k _
      · exact Fac.fail
    · exact Fac.fail
theorem fac_sHome (h : Home) (x : V) : Fac fun (K : Unit → Prog) => sHome h x (K ()) := by
  cases h with
  | slot s off => exact Fac.getS fun v => Fac.ite (Fac.setS (Fac.k ())) Fac.fail
  | obj o off =>
    refine Fac.getO fun v => ?_
    split
    · exact Fac.ite (Fac.setO (Fac.k ())) Fac.fail
    · exact Fac.fail
theorem fac_gElems (h : Home) (g sz : Nat) : Fac fun (K : Bool × List V → Prog) => gElems h g sz fun b es => K (b, es) := by
  refine Fac.bind (fac_gHome h) fun v => ?_
  cases v <;> first | exact Fac.fail | exact Fac.ite (Fac.k _) Fac.fail
theorem fac_gCells (r : Ref) (n : Nat) : Fac (gCells r n) := by
  cases r with
  | obj o off =>
    refine Fac.getO fun v => ?_
    split
    · exact Fac.ite (Fac.k _) Fac.fail
    · exact Fac.fail
  | elem h g sz i off =>
    refine Fac.bind (p := fun K => gElems h g sz fun b es => K (b, es)) (q := fun b K => match b.2[i]? with
      | some e => if off + n ≤ e.cells.length then K ((e.cells.drop off).take n) else .fail
      | none => .fail) (fac_gElems h g sz) fun b => ?_
    split
    · exact Fac.ite (Fac.k _) Fac.fail
    · exact Fac.fail
theorem fac_settle1 (h : Option Home) (v : V) : Fac (settle1 h v) := by
  cases v with
  | srf h' g sz off len =>
    refine Fac.bind (p := gHome h') (q := fun (x : V) (k : V → Prog) => match x with
      | .xsl g' sz' es =>
        if g' = g ∧ sz' = sz ∧ off + len ≤ es.length then
          if h = some h' then sHome h' (.gone (g + 1)) (k (.xsl 0 sz ((es.drop off).take len)))
          else sHome h' (.fsl g sz es) (k (.isl 0 sz ((es.drop off).take len)))
        else .fail
      | .fsl g' sz' es =>
        if g' = g ∧ sz' = sz ∧ off + len ≤ es.length then
          if h = some h' then sHome h' (.gone (g + 1)) (k (if off + len = es.length then .fsl 0 sz ((es.drop off).take len) else .isl 0 sz ((es.drop off).take len)))
          else k (.isl 0 sz ((es.drop off).take len))
        else .fail
      | .isl g' sz' es => if g' = g ∧ sz' = sz ∧ off + len ≤ es.length then k (.isl 0 sz ((es.drop off).take len)) else .fail
      | _ => .fail) (fac_gHome h') fun x => ?_
    cases x with
    | xsl => exact Fac.ite (Fac.ite (Fac.bind (fac_sHome _ _) fun _ => Fac.k _) (Fac.bind (fac_sHome _ _) fun _ => Fac.k _)) Fac.fail
    | fsl => exact Fac.ite (Fac.ite (Fac.bind (fac_sHome _ _) fun _ => Fac.k _) (Fac.k _)) Fac.fail
    | isl => exact Fac.ite (Fac.k _) Fac.fail
    | _ => exact Fac.fail
  | _ => exact Fac.k _
theorem fac_settle (mk : Nat → Option Home) : ∀ (vs : List V) (i : Nat), Fac (settle mk i vs)
  | [], _ => Fac.k []
  | v :: vs, i => Fac.bind (p := settle1 (mk i) v) (q := fun v' K => settle mk (i + 1) vs fun vs' => K (v' :: vs')) (fac_settle1 (mk i) v) fun v' => Fac.bind (p := settle mk (i + 1) vs) (q := fun vs' K => K (v' :: vs')) (fac_settle mk vs (i + 1)) fun _ => Fac.k _
theorem fac_lendArg (x : Opd) : Fac (lendArg x) := by
  refine Fac.bind (p := gOpd x) (q := fun (v : V) (k : V → Prog) => match x, v with
    | _, .tup _ => .fail
    | .tmp t, v => settle (fun _ => none) 0 (borrows (.slot t) 0 v.leaves) fun ls => k (v.withLeaves (ls.map freeze1))
    | .val _, v => k (v.withLeaves (v.leaves.map freeze1))) (fac_gOpd x) fun v => ?_
  split
  · exact Fac.fail
  · exact Fac.bind (p := settle _ _ _) (q := fun ls k => k (_)) (fac_settle _ _ _) fun ls => Fac.k _
  · exact Fac.k _
theorem fac_lendArgs : ∀ xs, Fac (lendArgs xs)
  | [] => Fac.k []
  | x :: xs => Fac.bind (p := lendArg x) (q := fun v k => lendArgs xs fun vs => k (v :: vs)) (fac_lendArg x) fun v => Fac.bind (p := lendArgs xs) (q := fun vs k => k (v :: vs)) (fac_lendArgs xs) fun _ => Fac.k _
theorem fac_gThere1 (v : V) : Fac fun (K : Unit → Prog) => gThere1 v (K ()) := by
  cases v with
  | ptr r =>
    cases r with
    | obj => exact Fac.k ()
    | elem h g sz i off => exact Fac.bind (p := fun K => gElems h g sz fun b es => K (b, es)) (fac_gElems h g sz) fun _ => Fac.k ()
  | _ => exact Fac.k ()
theorem fac_gTheres : ∀ vs, Fac fun (K : Unit → Prog) => gTheres vs (K ())
  | [] => Fac.k ()
  | v :: vs => Fac.bind (fac_gThere1 v) fun _ => fac_gTheres vs
theorem fac_reach : ∀ (n : Nat) (todo acc : List Nat), Fac (reach n todo acc)
  | 0, [], acc => Fac.k acc
  | _ + 1, [], acc => Fac.k acc
  | 0, _ :: _, _ => Fac.fail
  | n + 1, o :: todo, acc => by
    show Fac fun k => if o ∈ acc then reach n todo acc k
    else .getO o fun
      | some (.cells cs) => reach n (todo ++ V.objIds.idsIn cs) (acc ++ [o]) k
      | _ => .fail
    refine Fac.ite (fac_reach n _ _) (Fac.getO fun v => ?_)
    split
    · exact fac_reach n _ _
    · exact Fac.fail
theorem fac_getObjs : ∀ os, Fac (getObjs os)
  | [] => Fac.k []
  | o :: os => by
    refine Fac.getO fun v => ?_
    split
    · exact Fac.bind (p := getObjs os) (q := fun xs k => k (_ :: xs)) (fac_getObjs os) fun _ => Fac.k _
    · exact Fac.fail
theorem fac_pres0 (v : V) : Fac (pres0 v) := by
  cases v with
  | srf h g sz off len => exact Fac.bind (p := fun K => gElems h g sz fun b es => K (b, es)) (q := fun (b : Bool × List V) (k : V → Prog) => if off + len ≤ b.2.length then k (.isl 0 sz ((b.2.drop off).take len)) else .fail) (fac_gElems _ _ _) fun b => Fac.ite (Fac.k _) Fac.fail
  | asl r len => exact Fac.bind (p := gCells r len) (q := fun (cs : List V) (k : V → Prog) => if cs.all V.flat then k (.isl 0 1 cs) else .fail) (fac_gCells _ _) fun b => Fac.ite (Fac.k _) Fac.fail
  | func f caps => exact Fac.ite (Fac.k _) Fac.fail
  | ptr _ => exact Fac.fail
  | map _ => exact Fac.fail
  | agg _ => exact Fac.fail
  | tup _ => exact Fac.fail
  | _ => exact Fac.k _
theorem fac_press0 : ∀ vs, Fac (press0 vs)
  | [] => Fac.k []
  | v :: vs => Fac.bind (p := pres0 v) (q := fun v' k => press0 vs fun vs' => k (v' :: vs')) (fac_pres0 v) fun v' => Fac.bind (p := press0 vs) (q := fun vs' k => k (v' :: vs')) (fac_press0 vs) fun _ => Fac.k _
theorem fac_pres1 (v : V) : Fac (pres1 v) := by
  by_cases h : ∃ o off, v = .ptr (.obj o off)
  · obtain ⟨o, off, rfl⟩ := h
    refine Fac.getO fun x => ?_
    split
    · exact Fac.bind (p := press0 _) (q := fun (ls : List V) (k : V → Prog) => if ls.all V.inElem then k (.iptr ls) else .fail) (fac_press0 _) fun ls => Fac.ite (Fac.k _) Fac.fail
    · exact Fac.fail
  · have e : pres1 v = pres0 v := by
      funext k
      unfold pres1
      split
      · exact absurd ⟨_, _, rfl⟩ h
      · rfl
    rw [e]
    exact fac_pres0 v
theorem fac_press : ∀ vs, Fac (press vs)
  | [] => Fac.k []
  | v :: vs => Fac.bind (p := pres1 v) (q := fun v' k => press vs fun vs' => k (v' :: vs')) (fac_pres1 v) fun v' => Fac.bind (p := press vs) (q := fun vs' k => k (v' :: vs')) (fac_press vs) fun _ => Fac.k _
theorem fac_presArg (x : Opd) : Fac (presArg x) := by
  refine Fac.bind (p := gOpd x) (q := fun (v : V) (k : V → Prog) => match v with
    | .tup _ => .fail
    | v => press v.leaves fun ls => k (v.withLeaves ls)) (fac_gOpd x) fun v => ?_
  split
  · exact Fac.fail
  · exact Fac.bind (p := press _) (q := fun ls k => k (_)) (fac_press _) fun ls => Fac.k _
theorem fac_presArgs : ∀ xs, Fac (presArgs xs)
  | [] => Fac.k []
  | x :: xs => Fac.bind (p := presArg x) (q := fun v k => presArgs xs fun vs => k (v :: vs)) (fac_presArg x) fun v => Fac.bind (p := presArgs xs) (q := fun vs k => k (v :: vs)) (fac_presArgs xs) fun _ => Fac.k _
/-- A call asks its callee once. -/
theorem callP_once {cal : Callee} {ap : Bool} {f : FuncId} {first : Nat} {dst : Option Nat} {args : List Opd} {caps : List V} {σ σ1 : St} (h : (callP cal ap f first dst args caps).run σ = some σ1) :
    ∃ vs os r, cal f vs os = some r ∧ ∀ cal' : Callee, cal' f vs os = some r → (callP cal' ap f first dst args caps).run σ = some σ1 ∧ (callP cal' ap f first dst args caps).foot σ = (callP cal ap f first dst args caps).foot σ := by
  cases ap with
  | true =>
    rcases fac_presArgs args σ with h1 | ⟨vs, σ', rs, ws, h1⟩
    · unfold callP at h; simp only [if_true] at h; rw [h1] at h; cases h
    · unfold callP at h
      simp only [if_true] at h
      rw [(h1 _).1] at h
      split at h
      · rename_i hi
        split at h
        · rename_i r hr
          refine ⟨_, _, _, hr, fun cal' hc => ?_⟩
          unfold callP
          simp only [if_true]
          rw [(h1 _).1, (h1 _).2, (h1 _).2]
          simp only [if_pos hi, hr, hc]
          exact ⟨h, trivial⟩
        · cases h
      · cases h
  | false =>
    have hf : Fac fun (K : List V × List Nat × List Obj → Prog) => lendArgs args fun vs => gTheres ((vs ++ caps).flatMap V.leaves) <| reach 64 (V.objIds.idsIn (vs ++ caps)) [] fun ids => getObjs ids fun os => K (vs, ids, os) :=
      Fac.bind (fac_lendArgs args) fun vs => Fac.bind (p := fun (K : Unit → Prog) => gTheres ((vs ++ caps).flatMap V.leaves) (K ())) (q := fun _ K => reach 64 (V.objIds.idsIn (vs ++ caps)) [] fun ids => getObjs ids fun os => K (vs, ids, os)) (fac_gTheres _) fun _ => Fac.bind (fac_reach _ _ _) fun ids => Fac.bind (fac_getObjs _) fun os => Fac.k _
    obtain ⟨B, hB⟩ : ∃ B : Callee → List V × List Nat × List Obj → Prog, B = fun c x => if x.2.1.Nodup then
      match rens (findIdx x.2.1) (x.1 ++ caps), x.2.2.mapM (objRen (findIdx x.2.1)) with
      | some vs', some os' =>
        match c f vs' os' with
        | some (r, os'') =>
          match r.ren ((x.2.1 ++ newIds first (os''.length - x.2.1.length))[·]?), os''.mapM (objRen ((x.2.1 ++ newIds first (os''.length - x.2.1.length))[·]?)) with
          | some r', some os3 =>
            if ¬ (x.2.1 ++ newIds first (os''.length - x.2.1.length)).Nodup ∨ os''.length < x.2.1.length then .fail else
            setObjs x.2.1 (os3.take x.2.1.length) <| newObjs first (os3.drop x.2.1.length) <| resRef r' fun r'' => putO dst r'' .ret
          | _, _ => .fail
        | none => .fail
      | _, _ => .fail
    else .fail := ⟨_, rfl⟩
    have hun : ∀ c : Callee, callP c false f first dst args caps = lendArgs args fun vs => gTheres ((vs ++ caps).flatMap V.leaves) <| reach 64 (V.objIds.idsIn (vs ++ caps)) [] fun ids => getObjs ids fun os => B c (vs, ids, os) := fun c => by rw [hB]; rfl
    rcases hf σ with h1 | ⟨⟨vs, ids, os⟩, σ', rs, ws, h1⟩
    · rw [hun, h1] at h; cases h
    · rw [hun, (h1 _).1, hB] at h
      dsimp only at h
      split at h
      · rename_i hnd
        split at h
        · rename_i vs' os' hv ho
          split at h
          · rename_i r os2 hr
            refine ⟨vs', os', (r, os2), hr, fun cal' hc => ?_⟩
            rw [hun, hun, (h1 _).1, (h1 _).2, (h1 _).2, hB]
            simp only [if_pos hnd, hv, ho, hr, hc]
            exact ⟨h, trivial⟩
          · cases h
        · cases h
      · cases h
end Go.Vq

/- The V-level machine without a purse: calls, and code, as what they come to in the end (no law of Go is stated here). -/
namespace Go.Vq
open Classical in
/-- What a call comes to in the end. -/
noncomputable def lim (G : VProg) : Callee := fun f args objs => if h : ∃ r, ∃ n, ∀ m, n ≤ m → call G m f args objs = some r then some (Classical.choose h) else none
open Classical in
noncomputable def limX (G : VProg) (base : Nat) (c : VCode) (σ : St) : Option (Out × St) := if h : ∃ r, ∃ n, ∀ m, n ≤ m → exec G m base c σ = some r then some (Classical.choose h) else none
section
variable {G : VProg} {f : FuncId} {args : List V} {objs : List Obj} {r : V × List Obj} {base : Nat} {σ σ1 : St}
theorem lim_of {n : Nat} (h : ∀ m, n ≤ m → call G m f args objs = some r) : lim G f args objs = some r := by
  have h' : ∃ r, ∃ n, ∀ m, n ≤ m → call G m f args objs = some r := ⟨r, n, h⟩
  unfold lim
  rw [dif_pos h']
  obtain ⟨n', h2⟩ := Classical.choose_spec h'
  have e1 := h2 (max n n') (by omega)
  have e2 := h (max n n') (by omega)
  rw [e2] at e1
  exact e1.symm
theorem lim_ev (h : lim G f args objs = some r) : ∃ n, ∀ m, n ≤ m → call G m f args objs = some r := by
  unfold lim at h
  split at h
  · rename_i h'
    cases h
    exact Classical.choose_spec h'
  · cases h
theorem limX_of {c : VCode} {x : Out × St} {n : Nat} (h : ∀ m, n ≤ m → exec G m base c σ = some x) : limX G base c σ = some x := by
  have h' : ∃ r, ∃ n, ∀ m, n ≤ m → exec G m base c σ = some r := ⟨x, n, h⟩
  unfold limX
  rw [dif_pos h']
  obtain ⟨n', h2⟩ := Classical.choose_spec h'
  have e1 := h2 (max n n') (by omega)
  have e2 := h (max n n') (by omega)
  rw [e2] at e1
  exact e1.symm
theorem limX_ev {c : VCode} {x : Out × St} (h : limX G base c σ = some x) : ∃ n, ∀ m, n ≤ m → exec G m base c σ = some x := by
  unfold limX at h
  split at h
  · rename_i h'
    cases h
    exact Classical.choose_spec h'
  · cases h
theorem op_lim {d : Option Nat} {op : VOp} (h : (opProg (lim G) base d op).run σ = some σ1) : ∃ n, ∀ m, n ≤ m → (opProg (call G m) base d op).run σ = some σ1 ∧ (opProg (call G m) base d op).foot σ = (opProg (lim G) base d op).foot σ := by
  have hcall : ∀ {ap : Bool} {f : FuncId} {first : Nat} {args : List Opd} {caps : List V} {σ : St}, (callP (lim G) ap f first d args caps).run σ = some σ1 → ∃ n, ∀ m, n ≤ m → (callP (call G m) ap f first d args caps).run σ = some σ1 ∧ (callP (call G m) ap f first d args caps).foot σ = (callP (lim G) ap f first d args caps).foot σ := by
    intro ap f first args caps σ h
    obtain ⟨vs, os, r, hr, h2⟩ := callP_once h
    obtain ⟨n, hn⟩ := lim_ev hr
    exact ⟨n, fun m hm => h2 _ (hn m hm)⟩
  cases op with
  | call ap f site args => exact hcall h
  | callv ap x site args =>
    obtain ⟨B, hB⟩ : ∃ B : Callee → V → Prog, ∀ c, opProg c base d (.callv ap x site args) = gOpd x (B c) ∧ (∀ f caps, B c (.func f caps) = callP c ap f (base + site) d args caps) ∧ ∀ v, (∀ f caps, v ≠ .func f caps) → B c v = .fail :=
      ⟨_, fun c => ⟨rfl, fun _ _ => rfl, fun v hv => by cases v <;> first | rfl | exact absurd rfl (hv _ _)⟩⟩
    have key : ∀ (v : V) (σ' : St), (B (lim G) v).run σ' = some σ1 → ∃ n, ∀ m, n ≤ m → (B (call G m) v).run σ' = some σ1 ∧ (B (call G m) v).foot σ' = (B (lim G) v).foot σ' := by
      intro v σ' hv
      by_cases hf : ∃ f caps, v = .func f caps
      · obtain ⟨f, caps, rfl⟩ := hf
        rw [(hB _).2.1] at hv
        obtain ⟨n, hn⟩ := hcall hv
        exact ⟨n, fun m hm => by rw [(hB _).2.1, (hB _).2.1]; exact hn m hm⟩
      · rw [(hB _).2.2 v (fun f caps e => hf ⟨f, caps, e⟩)] at hv; cases hv
    rw [(hB _).1] at h
    cases x with
    | tmp t =>
      obtain ⟨n, hn⟩ := key _ σ h
      refine ⟨n, fun m hm => ?_⟩
      rw [(hB _).1, (hB _).1]
      refine ⟨(hn m hm).1, ?_⟩
      exact congrArg (fun r : List Loc × List Loc => (Loc.slot t :: r.1, r.2)) (hn m hm).2
    | val v =>
      obtain ⟨n, hn⟩ := key v σ h
      refine ⟨n, fun m hm => ?_⟩
      rw [(hB _).1, (hB _).1]
      exact hn m hm
  | eq neg k x y => cases k <;> exact ⟨0, fun m _ => ⟨h, rfl⟩⟩
  | _ => exact ⟨0, fun m _ => ⟨h, rfl⟩⟩
theorem oper_lim {o : VOper} (h : (o.prog (lim G) base).run σ = some σ1) : ∃ n, ∀ m, n ≤ m → (o.prog (call G m) base).run σ = some σ1 ∧ (o.prog (call G m) base).foot σ = (o.prog (lim G) base).foot σ := by
  obtain ⟨dst, op, guard, before⟩ := o
  cases guard with
  | none => exact op_lim h
  | some g =>
    obtain ⟨s, want⟩ := g
    obtain ⟨B, hB⟩ : ∃ B : Callee → V → Prog, ∀ c, VOper.prog c base ⟨dst, op, some (s, want), before⟩ = .getS s (B c) ∧ (∀ b, B c (.bool b) = if b == want then opProg c base dst op else skipP dst) ∧ (B c (.tup []) = skipP dst) ∧ ∀ v, (∀ b, v ≠ .bool b) → v ≠ .tup [] → B c v = .fail :=
      ⟨_, fun c => ⟨rfl, fun _ => rfl, rfl, fun v hv hv2 => by
        cases v <;> first | rfl | exact absurd rfl (hv _) | (rename_i l; cases l <;> first | rfl | exact absurd rfl hv2)⟩⟩
    have key : ∀ v : V, (B (lim G) v).run σ = some σ1 → ∃ n, ∀ m, n ≤ m → (B (call G m) v).run σ = some σ1 ∧ (B (call G m) v).foot σ = (B (lim G) v).foot σ := by
      intro v hv
      by_cases h1 : ∃ b, v = .bool b
      · obtain ⟨b, rfl⟩ := h1
        rw [(hB _).2.1] at hv
        cases hb : b == want
        · simp only [hb, Bool.false_eq_true, if_false] at hv
          exact ⟨0, fun m _ => by rw [(hB _).2.1, (hB _).2.1]; simp only [hb, Bool.false_eq_true, if_false]; exact ⟨hv, trivial⟩⟩
        · simp only [hb, if_true] at hv
          obtain ⟨n, hn⟩ := op_lim hv
          exact ⟨n, fun m hm => by rw [(hB _).2.1, (hB _).2.1]; simp only [hb, if_true]; exact hn m hm⟩
      · by_cases h2 : v = .tup []
        · subst h2
          rw [(hB _).2.2.1] at hv
          exact ⟨0, fun m _ => by rw [(hB _).2.2.1, (hB _).2.2.1]; exact ⟨hv, rfl⟩⟩
        · rw [(hB _).2.2.2 v (fun b e => h1 ⟨b, e⟩) h2] at hv; cases hv
    rw [(hB _).1] at h
    obtain ⟨n, hn⟩ := key _ h
    refine ⟨n, fun m hm => ?_⟩
    rw [(hB _).1, (hB _).1]
    exact ⟨(hn m hm).1, congrArg (fun r : List Loc × List Loc => (Loc.slot s :: r.1, r.2)) (hn m hm).2⟩
theorem runOps_lim : ∀ {ops : List VOper} {σ : St}, runOps (lim G) base ops σ = some σ1 → ∃ n, ∀ m, n ≤ m → runOps (call G m) base ops σ = some σ1
  | [], σ, h => ⟨0, fun _ _ => h⟩
  | o :: os, σ, h => by
    simp only [runOps] at h
    split at h
    · rename_i σ2 h2
      obtain ⟨n, hn⟩ := oper_lim h2
      obtain ⟨n', hn'⟩ := runOps_lim h
      exact ⟨max n n', fun m hm => by simp only [runOps, (hn m (by omega)).1]; exact hn' m (by omega)⟩
    · cases h
theorem runDraw_lim : ∀ {ops : List VOper} {done : List (List Loc × List Loc)} {σ : St}, runDraw (lim G) base ops done σ = some σ1 → ∃ n, ∀ m, n ≤ m → runDraw (call G m) base ops done σ = some σ1
  | [], _, σ, h => ⟨0, fun _ _ => h⟩
  | o :: os, done, σ, h => by
    simp only [runDraw] at h
    split at h
    · cases h
    · rename_i hc
      split at h
      · rename_i σ2 h2
        obtain ⟨n, hn⟩ := oper_lim h2
        obtain ⟨n', hn'⟩ := runDraw_lim h
        exact ⟨max n n', fun m hm => by simp only [runDraw, (hn m (by omega)).1, (hn m (by omega)).2, if_neg hc]; exact hn' m (by omega)⟩
      · cases h
theorem rounds_lim {one : List V → St → Option (Out × St)} {oneM : Nat → List V → St → Option (Out × St)} {next : St → St} (ho : ∀ y σ x, one y σ = some x → ∃ n, ∀ m, n ≤ m → oneM m y σ = some x) :
    ∀ {xs : List (List V)} {σ : St} {x : Out × St}, rounds one next xs σ = some x → ∃ n, ∀ m, n ≤ m → rounds (oneM m) next xs σ = some x
  | [], σ, x, h => ⟨0, fun _ _ => h⟩
  | y :: ys, σ, x, h => by
    simp only [rounds] at h
    split at h
    · rename_i σ2 h2
      obtain ⟨n, hn⟩ := ho _ _ _ h2
      obtain ⟨n', hn'⟩ := rounds_lim ho h
      exact ⟨max n n', fun m hm => by simp only [rounds, hn m (by omega)]; exact hn' m (by omega)⟩
    · rename_i o σ2 hne h2
      obtain ⟨n, hn⟩ := ho _ _ _ h2
      refine ⟨n, fun m hm => ?_⟩
      simp only [rounds, hn m hm]
      cases o with
      | normal => exact absurd rfl hne
      | _ => exact h
    · cases h
theorem step_lim {its : FuncId → Iter} : ∀ {c : VCode} {base : Nat} {σ : St} {x : Out × St}, step (lim G) its (limX G) base c σ = some x → ∃ n, ∀ m, n ≤ m → step (call G m) its (exec G m) base c σ = some x
  | .skip, _, _, _, h => ⟨0, fun _ _ => h⟩
  | .exit _, _, _, _, h => ⟨0, fun _ _ => h⟩
  | .ret, _, _, _, h => ⟨0, fun _ _ => h⟩
  | .bad, _, _, _, h => by cases h
  | .region ops draw, base, σ, x, h => by
    cases draw with
    | true =>
      simp only [step, if_true] at h ⊢
      cases hr : runDraw (lim G) base ops [] σ with
      | none => rw [hr] at h; cases h
      | some σ2 =>
        rw [hr] at h
        obtain ⟨n, hn⟩ := runDraw_lim hr
        exact ⟨n, fun m hm => by rw [hn m hm]; exact h⟩
    | false =>
      simp only [step, Bool.false_eq_true, if_false] at h ⊢
      cases hr : runOps (lim G) base ops σ with
      | none => rw [hr] at h; cases h
      | some σ2 =>
        rw [hr] at h
        obtain ⟨n, hn⟩ := runOps_lim hr
        exact ⟨n, fun m hm => by rw [hn m hm]; exact h⟩
  | .seq a b, base, σ, x, h => by
    simp only [step] at h
    cases ha : step (lim G) its (limX G) base a σ with
    | none => rw [ha] at h; cases h
    | some y =>
      obtain ⟨o, σ2⟩ := y
      obtain ⟨n, hn⟩ := step_lim (c := a) ha
      rw [ha] at h
      cases o with
      | normal =>
        obtain ⟨n', hn'⟩ := step_lim (c := b) h
        exact ⟨max n n', fun m hm => by simp only [step, hn m (by omega)]; exact hn' m (by omega)⟩
      | exit i => exact ⟨n, fun m hm => by simp only [step, hn m hm]; exact h⟩
      | ret => exact ⟨n, fun m hm => by simp only [step, hn m hm]; exact h⟩
  | .cond c a b, base, σ, x, h => by
    simp only [step] at h ⊢
    cases hc : condV c σ with
    | none => rw [hc] at h; cases h
    | some t =>
      rw [hc] at h
      cases t with
      | true => exact step_lim (c := a) h
      | false => exact step_lim (c := b) h
  | .block id keep a, base, σ, x, h => by
    simp only [step] at h
    cases ha : step (lim G) its (limX G) base a σ with
    | none => rw [ha] at h; cases h
    | some y =>
      obtain ⟨o, σ2⟩ := y
      obtain ⟨n, hn⟩ := step_lim (c := a) ha
      rw [ha] at h
      exact ⟨n, fun m hm => by simp only [step, hn m hm]; exact h⟩
  | .loop keep a, base, σ, x, h => by
    simp only [step] at h
    cases ha : step (lim G) its (limX G) base a (rebase? keep base σ) with
    | none => rw [ha] at h; cases h
    | some y =>
      obtain ⟨o, σ2⟩ := y
      obtain ⟨n, hn⟩ := step_lim (c := a) ha
      rw [ha] at h
      cases o with
      | normal =>
        obtain ⟨n', hn'⟩ := limX_ev h
        exact ⟨max n n', fun m hm => by simp only [step, hn m (by omega)]; exact hn' m (by omega)⟩
      | exit i => exact ⟨n, fun m hm => by simp only [step, hn m hm]; exact h⟩
      | ret => exact ⟨n, fun m hm => by simp only [step, hn m hm]; exact h⟩
  | .range x0 ps site keep a b, base, σ, x, h => by
    simp only [step, rangeGo] at h ⊢
    generalize opdV x0 σ = v at h ⊢
    cases v with
    | func g caps =>
      dsimp only at h ⊢
      cases hb : boxesOf caps with
      | none => rw [hb] at h; cases h
      | some bs =>
        rw [hb] at h
        dsimp only at h ⊢
        cases hi : its g bs with
        | none => rw [hi] at h; cases h
        | some y =>
          obtain ⟨ar, xs⟩ := y
          rw [hi] at h
          dsimp only at h ⊢
          split at h
          · rename_i har
            simp only [if_pos har]
            refine rounds_lim (oneM := fun m y σ1 => match step (call G m) its (exec G m) (base + site) a (setPs ps y σ1) with
              | some (.normal, σ2) => step (call G m) its (exec G m) (base + site) b σ2
              | _ => none) (fun y σ1 x h => ?_) h
            cases ha : step (lim G) its (limX G) (base + site) a (setPs ps y σ1) with
            | none => rw [ha] at h; cases h
            | some z =>
              obtain ⟨o, σ2⟩ := z
              obtain ⟨n, hn⟩ := step_lim (c := a) ha
              rw [ha] at h
              cases o with
              | normal =>
                obtain ⟨n', hn'⟩ := step_lim (c := b) h
                exact ⟨max n n', fun m hm => by simp only [hn m (by omega)]; exact hn' m (by omega)⟩
              | exit i => cases h
              | ret => cases h
          · cases h
    | _ => cases h
/-- Code runs in the end as step by step. -/
theorem limX_step {c : VCode} {x : Out × St} (h : step (lim G) (itersOf G) (limX G) base c σ = some x) : limX G base c σ = some x := by
  obtain ⟨n, hn⟩ := step_lim h
  refine limX_of (n := n + 1) fun m hm => ?_
  obtain ⟨k, rfl⟩ : ∃ k, m = k + 1 := ⟨m - 1, by omega⟩
  exact hn k (by omega)
theorem lim_code {fn : VFunc} {o : Out} {res : V × List Obj} (hf : G f = some (.code fn)) (hl : args.length = fn.nparams ∧ fn.nparams ≤ fn.ntmps) (h : step (lim G) (itersOf G) (limX G) objs.length fn.body (start fn args objs) = some (o, σ)) (ho : o = .normal ∨ o = .ret)
    (hr : finish fn objs.length σ = some res) : lim G f args objs = some res := by
  obtain ⟨n, hn⟩ := limX_ev (limX_step h)
  exact lim_of (n := n) fun m hm => call_code hf hl (hn m hm) ho hr
theorem lim_prim {run : List V → List Obj → Option (V × List Obj)} (hf : G f = some (.prim run)) (h : run args objs = some r) : lim G f args objs = some r := lim_of (n := 0) fun m _ => by rw [call_prim hf]; exact h
end
end Go.Vq

/-! Runs forward, without a purse. -/
set_option linter.unusedVariables false
set_option maxRecDepth 1000000
namespace Go.Vq
section
variable {G : VProg} {base : Nat} {σ σ1 : St} {Q : Out → St → Prop}
abbrev WL (G : VProg) (base : Nat) (c : VCode) (σ : St) (Q : Out → St → Prop) : Prop := W (lim G) (itersOf G) (limX G) base c σ Q
theorem lim_W {f : FuncId} {fn : VFunc} {args : List V} {objs : List Obj} {res : V × List Obj} (hf : G f = some (.code fn)) (hl : args.length = fn.nparams ∧ fn.nparams ≤ fn.ntmps) (h : WL G objs.length fn.body (start fn args objs) (Qend fn objs.length (some res))) : lim G f args objs = some res := by
  obtain ⟨o, s, h1, h2, h3⟩ := h
  exact lim_code hf hl h1 h2 h3
theorem lim_fun {f : FuncId} {fn : VFunc} {args : List V} {objs : List Obj} {res : V × List Obj} {body : VCode} {σ0 : St} {base : Nat} (hf : G f = some (.code fn)) (hl : args.length = fn.nparams ∧ fn.nparams ≤ fn.ntmps := by exact ⟨rfl, by decide⟩) (hb : fn.body = body := by rfl) (hs : start fn args objs = σ0 := by (simp only [Vq.start, List.length_cons, List.length_nil, List.map_cons, List.map_nil, List.cons_append, List.nil_append, List.replicate_succ, List.replicate_zero, Nat.reduceAdd, Nat.reduceSub]; exact rfl)) (hbs : objs.length = base := by (simp only [List.length_cons, List.length_nil, Nat.reduceAdd]; exact rfl))
    (h : WL G base body σ0 (Qend fn base (some res))) : lim G f args objs = some res := by
  subst hb hs hbs
  exact lim_W hf hl h
/-- The rounds of a loop. -/
theorem WL_loop {α : Type} {keep : Option (List Nat)} {body : VCode} (S : α → St) (I : α → Prop) (μ : α → Nat)
    (hr : ∀ a, I a → WL G base body (S a) (Qrnd keep base S (fun b => I b ∧ μ b < μ a) Q)) (a : α) (σ : St) (hI : I a) (hs : rebase? keep base σ = S a) : WL G base (.loop keep body) σ Q := by
  have key : ∀ (k : Nat) (a : α) (σ : St), I a → μ a ≤ k → rebase? keep base σ = S a → WL G base (.loop keep body) σ Q := by
    intro k
    induction k with
    | zero =>
      intro a σ hI hk hs
      obtain ⟨o, s, h1, h2⟩ := hr a hI
      rcases h2 with ⟨rfl, b, h3, h4, h5⟩ | ⟨h3, h4⟩
      · omega
      · exact ⟨o, s, step_loop_out hs h1 h3, h4⟩
    | succ k ih =>
      intro a σ hI hk hs
      obtain ⟨o, s, h1, h2⟩ := hr a hI
      rcases h2 with ⟨rfl, b, h3, h4, h5⟩ | ⟨h3, h4⟩
      · obtain ⟨o', s', h6, h7⟩ := ih b s h4 (by omega) h3
        exact ⟨o', s', step_loop hs h1 (limX_step h6), h7⟩
      · exact ⟨o, s, step_loop_out hs h1 h3, h4⟩
  exact key (μ a) a σ hI (Nat.le_refl _) hs
theorem gLim {f : FuncId} {a : List V} {o : List Obj} {r : V × List Obj} (h : lim G f a o = some r) : lim G f a o = some r := h
end
theorem byN_takeL (l : List Nat) : (byN l).take l.length = byN l := take_by rfl
section
variable {σ τ : St} {rs ws r0 r1 : List Loc} {t : Nat} {us vs : List V} {xs : List Opd}
theorem PA_S {h0 : Home} {g sz off len : Nat} {own : Bool} {es : List V} (h : σ.slots[t]? = some (.srf h0 g sz off len)) (ha : ∀ (k' : Bool → List V → Prog), PR (k' own es) σ (r1 ++ rs) ws τ → PR (gElems h0 g sz k') σ (r0 ++ (r1 ++ rs)) ws τ) (hl : off + len ≤ es.length) (hv : (es.drop off).take len = us)
    (hr : ∀ (k : List V → Prog), PR (k vs) σ rs ws τ → PR (presArgs xs k) σ (r1 ++ rs) ws τ) : ∀ (k : List V → Prog), PR (k (.isl 0 sz us :: vs)) σ rs ws τ → PR (presArgs (.tmp t :: xs) k) σ ((.slot t :: (r0 ++ r1)) ++ rs) ws τ := by
  intro k h2
  subst hv
  rw [List.cons_append, List.append_assoc]
  refine PR_getS h ?_
  show PR (gElems h0 g sz fun _ es => if off + len ≤ es.length then presArgs xs (fun vs => k (.isl 0 sz ((es.drop off).take len) :: vs)) else .fail) σ _ ws τ
  refine ha _ ?_
  simp only [if_pos hl]
  exact hr (fun vs => k (.isl 0 sz ((es.drop off).take len) :: vs)) h2
theorem PR_keepsR {mk : Nat → Option Home} {i : Nat} {h0 : Home} {g sz off len : Nat} {vs : List V} {k : List V → Prog} (hm : mk i = some h0) (h : PR (settle1 (some h0) (.srf h0 g sz off len) fun v' => keeps mk (i + 1) vs fun vs' => k (v' :: vs')) σ rs ws τ) :
    PR (keeps mk i (.srf h0 g sz off len :: vs) k) σ rs ws τ := by simp only [keeps, keep1, hm, if_true]; exact h
theorem PA_G {v : V} (h : σ.slots[t]? = some v) (hnt : ∀ us, v ≠ .tup us) (hp : ∀ (k : List V → Prog), PR (k us) σ (r1 ++ rs) ws τ → PR (press v.leaves k) σ (r0 ++ (r1 ++ rs)) ws τ)
    (hr : ∀ (k : List V → Prog), PR (k vs) σ rs ws τ → PR (presArgs xs k) σ (r1 ++ rs) ws τ) : ∀ (k : List V → Prog), PR (k (v.withLeaves us :: vs)) σ rs ws τ → PR (presArgs (.tmp t :: xs) k) σ ((.slot t :: (r0 ++ r1)) ++ rs) ws τ := by
  intro k h2
  rw [List.cons_append, List.append_assoc]
  refine PR_getS h ?_
  have := hp (fun ls => presArgs xs fun vs => k (v.withLeaves ls :: vs)) (hr (fun vs => k (v.withLeaves us :: vs)) h2)
  cases v <;> first | exact this | exact absurd rfl (hnt _)
theorem PA_A {o off len : Nat} {cs ys zs : List V} (h : σ.slots[t]? = some (.asl (.obj o off) len)) (ho : σ.objs[o]? = some (some (.cells cs))) (hl : off + len ≤ cs.length) (hv : (cs.drop off).take len = ys) (hb : borrows (fun i => .obj o (off + i)) 0 ys = zs) (hf : zs.all V.flat = true)
    (hr : ∀ (k : List V → Prog), PR (k vs) σ rs ws τ → PR (presArgs xs k) σ (r1 ++ rs) ws τ) : ∀ (k : List V → Prog), PR (k (.isl 0 1 zs :: vs)) σ rs ws τ → PR (presArgs (.tmp t :: xs) k) σ ((.slot t :: .obj o :: r1) ++ rs) ws τ := by
  intro k h2
  rw [List.cons_append]
  refine PR_getS h ?_
  rw [List.cons_append]
  show PR (gCells (.obj o off) len fun cs => if cs.all V.flat then presArgs xs (fun vs => k (.isl 0 1 cs :: vs)) else .fail) σ _ ws τ
  refine PR_cellsO ho hl hv hb ?_
  simp only [hf, if_true]
  exact hr (fun vs => k (.isl 0 1 zs :: vs)) h2
theorem P0_nil : ∀ (k : List V → Prog), PR (k []) σ rs ws τ → PR (press0 [] k) σ rs ws τ := fun _ h => h
theorem P0_c {v v' : V} {ls : List V} (h : ∀ k, pres0 v k = k v') (hr : ∀ (k : List V → Prog), PR (k us) σ rs ws τ → PR (press0 ls k) σ rs ws τ) : ∀ (k : List V → Prog), PR (k (v' :: us)) σ rs ws τ → PR (press0 (v :: ls) k) σ rs ws τ := by
  intro k h2
  simp only [press0, h]
  exact hr (fun vs => k (v' :: vs)) h2
theorem PA_P {o off : Nat} {cs ls : List V} (h : σ.slots[t]? = some (.ptr (.obj o off))) (ho : σ.objs[o]? = some (some (.cells cs))) (hp : ∀ (k : List V → Prog), PR (k ls) σ (r1 ++ rs) ws τ → PR (press0 (cs.drop off) k) σ (r1 ++ rs) ws τ) (hall : ls.all V.inElem = true)
    (hr : ∀ (k : List V → Prog), PR (k vs) σ rs ws τ → PR (presArgs xs k) σ (r1 ++ rs) ws τ) : ∀ (k : List V → Prog), PR (k (.iptr ls :: vs)) σ rs ws τ → PR (presArgs (.tmp t :: xs) k) σ ((.slot t :: .obj o :: r1) ++ rs) ws τ := by
  intro k h2
  rw [List.cons_append]
  refine PR_getS h ?_
  rw [List.cons_append]
  show PR (.getO o fun | some (.cells cs) => press0 (cs.drop off) fun ls => if ls.all V.inElem then presArgs xs (fun vs => k (.iptr ls :: vs)) else .fail | _ => .fail) σ _ ws τ
  refine PR_getO ho ?_
  refine hp _ ?_
  simp only [hall, if_true]
  exact hr (fun vs => k (.iptr ls :: vs)) h2
theorem PS_nil : ∀ (k : List V → Prog), PR (k []) σ rs ws τ → PR (press [] k) σ ([] ++ rs) ws τ := fun _ h => h
theorem PS_c {v : V} {ls : List V} (h : ∀ k, pres1 v k = k v) (hr : ∀ (k : List V → Prog), PR (k us) σ rs ws τ → PR (press ls k) σ (r0 ++ rs) ws τ) : ∀ (k : List V → Prog), PR (k (v :: us)) σ rs ws τ → PR (press (v :: ls) k) σ (r0 ++ rs) ws τ := by
  intro k h2
  simp only [press, h]
  exact hr (fun vs => k (v :: vs)) h2
theorem PS_s {h0 : Home} {g sz off len : Nat} {own : Bool} {es ls es' : List V} (ha : ∀ (k' : Bool → List V → Prog), PR (k' own es) σ (r1 ++ rs) ws τ → PR (gElems h0 g sz k') σ (r0 ++ (r1 ++ rs)) ws τ) (hl : off + len ≤ es.length) (hv : (es.drop off).take len = es')
    (hr : ∀ (k : List V → Prog), PR (k us) σ rs ws τ → PR (press ls k) σ (r1 ++ rs) ws τ) : ∀ (k : List V → Prog), PR (k (.isl 0 sz es' :: us)) σ rs ws τ → PR (press (.srf h0 g sz off len :: ls) k) σ ((r0 ++ r1) ++ rs) ws τ := by
  intro k h2
  subst hv
  rw [List.append_assoc]
  show PR (gElems h0 g sz fun _ es => if off + len ≤ es.length then press ls (fun vs => k (.isl 0 sz ((es.drop off).take len) :: vs)) else .fail) σ _ ws τ
  refine ha _ ?_
  simp only [if_pos hl]
  exact hr (fun vs => k (.isl 0 sz ((es.drop off).take len) :: vs)) h2
end
theorem runV {c d p q : Prop} (s : c) (u : d) (hq : q) (h : c → d → Vq.Hid q → p := by (intro s u hQ; (repeat' (first | ((with_reducible apply Vq.gPR); (first | ((with_reducible first | apply Vq.PR_opdT | apply Vq.PR_intT); (· exact rfl); (try dsimp only)) | (with_reducible first | apply Vq.PR_putO | exact Vq.PR_ret | apply Vq.PR_optV) | ((first | (with_reducible apply Vq.PO_n) | ((with_reducible apply Vq.PO_t); (· exact rfl)) | ((with_reducible apply Vq.PO_f); (· exact rfl); (· exact rfl)) | ((with_reducible apply Vq.PO_u); (· exact rfl))); dsimp only [Vq.opProg, Vq.skipP, Vq.gOptInt, Vq.gThere]) | ((with_reducible first | apply Vq.PR_opdV | apply Vq.PR_intV | apply Vq.PR_boolV | apply Vq.PR_putN | apply Vq.PR_drainV | apply Vq.PR_build | apply Vq.PR_build0 | apply Vq.PR_buildS | apply Vq.PR_buildS0); (try dsimp only)) | ((with_reducible first | apply Vq.PR_gMoveP | apply Vq.PR_gKeepP | apply Vq.PR_gImmP); (· exact rfl); (· exact rfl); (try dsimp only)) | ((with_reducible first | apply Vq.PR_gMove | apply Vq.PR_gKeep | apply Vq.PR_gImm); (· exact rfl); (· exact rfl); (try dsimp only [Vq.V.leaves])) | ((with_reducible first | apply Vq.PR_gMoveV | apply Vq.PR_gKeepV | apply Vq.PR_gImmV); (try dsimp only); rotate_left; (· exact rfl)) | ((with_reducible apply Vq.PR_drain1); (· exact rfl); (· exact rfl)) | ((with_reducible apply Vq.PR_keepsR); (· exact rfl); (try dsimp only)) | ((with_reducible apply Vq.PR_settleR); (try dsimp only)) | (with_reducible first | apply Vq.PR_drain0 | apply Vq.PR_settle | apply Vq.PR_keeps | apply Vq.PR_cellsO | apply Vq.PR_scellsO | apply Vq.PR_shomeO | apply Vq.PR_shomeS | apply Vq.PR_setS | apply Vq.PR_setO) | ((with_reducible first | apply Vq.PR_boolT | apply Vq.PR_getS | apply Vq.PR_getO); (· exact rfl); (try dsimp only)) | ((with_reducible first | apply Vq.PR_elemsO | apply Vq.PR_elemsS); (· exact rfl); (· exact rfl); (· exact rfl); (try dsimp only)) | ((with_reducible first | apply Vq.PR_cellsE | apply Vq.PR_scellsE | apply Vq.PR_viewR); (· first | (apply Vq.PR_aelO; (· exact rfl); (· exact rfl); (· exact rfl)) | (apply Vq.PR_aelS; (· exact rfl); (· exact rfl); (· exact rfl)))) | ((with_reducible apply Vq.PR_viewA); (· exact rfl)) | ((with_reducible first | apply Vq.PR_view | apply Vq.PR_len); (· exact rfl); (try dsimp only)) | ((with_reducible first | apply Vq.PR_call | apply Vq.PR_lendN | apply Vq.PR_reachN | apply Vq.PR_getObN | apply Vq.PR_setObN | apply Vq.PR_newObN | apply Vq.PR_theres) <;> (try simp only [Vq.idsIn_by, Vq.idsIn_c, Vq.idsIn_n, Vq.ids_agg, Vq.ids_ptr, Vq.ids_int, Vq.ids_bool, Vq.ids_str, Vq.ids_isl, Vq.ids_xsl, Vq.ids_fsl, Vq.ids_nilS, List.nil_append, List.cons_append, List.append_nil])) | ((with_reducible apply Vq.PR_lendT); (· exact rfl); (· intro _ e; cases e); (try simp only [Vq.V.leaves, Vq.borrows_by, Vq.borrows, Vq.borrow1, Vq.V.withLeaves, List.headD_cons, List.map_cons, List.map_nil])) | ((with_reducible apply Vq.PR_lendV); (· intro _ e; cases e); (try dsimp only)) | ((with_reducible apply Vq.PR_reachC); (· decide); (· exact rfl); (try simp only [Vq.idsIn_by, Vq.idsIn_c, Vq.idsIn_n, Vq.ids_agg, Vq.ids_ptr, Vq.ids_int, Vq.ids_bool, Vq.ids_str, Vq.ids_isl, Vq.ids_xsl, Vq.ids_fsl, Vq.ids_nilS, List.nil_append, List.cons_append, List.append_nil])) | ((with_reducible apply Vq.PR_reachS); (· decide)) | ((with_reducible first | apply Vq.PR_getObC | apply Vq.PR_newObC); (· exact rfl)) | (with_reducible apply Vq.PR_callA) | ((with_reducible apply Vq.gReach); simp only [Vq.idsIn_by, Vq.idsIn_c, Vq.idsIn_n, Vq.ids_agg, Vq.ids_ptr, Vq.ids_int, Vq.ids_bool, Vq.ids_str, Vq.ids_isl, Vq.ids_xsl, Vq.ids_fsl, Vq.ids_nilS, List.nil_append, List.cons_append, List.append_nil, List.headD_cons, List.map_cons, List.map_nil, Vq.freeze1]) | ((with_reducible apply Vq.PR_callK); (· decide)) | ((with_reducible apply Vq.PR_setObC); (· exact rfl)) | ((with_reducible apply Vq.PR_resRef); (· intro _ _ _ _ _ e; cases e); (try dsimp only)) | ((with_reducible apply Vq.PR_set1X); (· first | (apply Vq.PR_ahO; (· exact rfl); (· exact rfl)) | (apply Vq.PR_ahS; (· exact rfl); (· exact rfl)))) | ((with_reducible apply Vq.PR_set1F); (· first | (apply Vq.PR_ahO; (· exact rfl); (· exact rfl)) | (apply Vq.PR_ahS; (· exact rfl); (· exact rfl)))) | ((with_reducible apply Vq.PR_set2I); (· first | (apply Vq.PR_ahO; (· exact rfl); (· exact rfl)) | (apply Vq.PR_ahS; (· exact rfl); (· exact rfl)))) | ((with_reducible apply Vq.PR_set2X); (· first | (apply Vq.PR_ahO; (· exact rfl); (· exact rfl)) | (apply Vq.PR_ahS; (· exact rfl); (· exact rfl))); (· decide)) | ((with_reducible apply Vq.PR_set2F); (· first | (apply Vq.PR_ahO; (· exact rfl); (· exact rfl)) | (apply Vq.PR_ahS; (· exact rfl); (· exact rfl))); (· decide)) | ((with_reducible apply Vq.PR_ifN); (· exact rfl)) | (simp only [z1, z2, z3, z4, z5, z6, z7, z8, z9, z10, z11, z12, z13, z14, z15, z16, z17, z18, List.length_map, V.withLeaves, V.borrow, zero1, freeze1, borrows, borrow1, V.leaves, V.nextg, Nat.reduceAdd, Nat.reduceSub, layTup, obj1, splice, Bool.false_eq_true, if_true, if_false, Bool.not_true, Bool.not_false, Vq.take_mapl, Int.toNat_natCast, Int.toNat_zero, Nat.add_zero, Nat.sub_zero, Nat.zero_add, Int.reduceToNat, Vq.binV_shr, Vq.binV_shl, Int.natCast_nonneg, Vq.flat_by, Vq.byN_take, Vq.byN_len, Vq.here_by, Vq.here_int, Vq.here_bool, Vq.here_str, Vq.here_isl, Vq.here_xsl, Vq.here_nil, Vq.obj1_by, Vq.freeze1_by, Vq.inObj_by, Vq.inElem_by, Vq.plain_by, Vq.V.cells, Vq.here_intL, Vq.here_boolL, Vq.here_strL, Vq.here_islL, Vq.here_xslL, Vq.here_fslL, Vq.here_ptrL, Vq.here_nilP, Vq.V.inElem, Vq.V.inObj, List.length_append, List.length_replicate, List.length_set, List.drop_replicate, List.replicate_zero, List.append_nil, List.take_length, Nat.reduceSub, List.map_cons, List.map_nil, List.all_cons, List.all_nil, Vq.freeze1, Vq.obj1, Bool.and_true, Bool.true_and, List.flatMap_cons, List.flatMap_nil, List.append_nil, Vq.regens_by0, Vq.regens_bb, Vq.regens_zb, List.take_replicate, Nat.min_self, Nat.zero_min, List.nil_append, Vq.ofCells, Bool.false_eq_true, if_false, Vq.regens_nn, Vq.regens_g0, Vq.regens_0c, Vq.regens_c, Vq.regen1, Vq.V.nextg, Option.bind_some, Option.map_some, if_true, Vq.borrows_by, Vq.byN_app, Vq.V.sz?, Vq.lenOf, Vq.TK.fits, Vq.gThere, Vq.subV, List.map_cons, List.map_nil, List.flatMap_cons, List.flatMap_nil, ge_iff_le, gt_iff_lt, Vq.byN_len, Vq.byN_takeL, beq_self_eq_true, bne_self_eq_false, s, u, if_true, if_false, eq_self, Nat.reduceEqDiff]) | (apply Vq.PR_ifT; (· exact rfl)) | (apply Vq.PR_ifF; (· exact rfl)) | (apply Vq.PR_if) | (simp only [z1, z2, z3, z4, z5, z6, z7, z8, z9, z10, z11, z12, z13, z14, z15, z16, z17, z18, List.length_map, V.withLeaves, V.borrow, zero1, freeze1, borrows, borrow1, V.leaves, V.nextg, Nat.reduceAdd, Nat.reduceSub, layTup, obj1, splice, Bool.false_eq_true, if_true, if_false, Bool.not_true, Bool.not_false, Vq.take_mapl, Int.toNat_natCast, Int.toNat_zero, Nat.add_zero, Nat.sub_zero, Nat.zero_add, Int.reduceToNat, Vq.binV_shr, Vq.binV_shl, Int.natCast_nonneg, Vq.flat_by, Vq.byN_take, Vq.byN_len, Vq.here_by, Vq.here_int, Vq.here_bool, Vq.here_str, Vq.here_isl, Vq.here_xsl, Vq.here_nil, Vq.obj1_by, Vq.freeze1_by, Vq.inObj_by, Vq.inElem_by, Vq.plain_by, Vq.V.cells, Vq.here_intL, Vq.here_boolL, Vq.here_strL, Vq.here_islL, Vq.here_xslL, Vq.here_fslL, Vq.here_ptrL, Vq.here_nilP, Vq.V.inElem, Vq.V.inObj, List.length_append, List.length_replicate, List.length_set, List.drop_replicate, List.replicate_zero, List.append_nil, List.take_length, Nat.reduceSub, List.map_cons, List.map_nil, List.all_cons, List.all_nil, Vq.freeze1, Vq.obj1, Bool.and_true, Bool.true_and, List.flatMap_cons, List.flatMap_nil, List.append_nil, Vq.regens_by0, Vq.regens_bb, Vq.regens_zb, List.take_replicate, Nat.min_self, Nat.zero_min, List.nil_append, Vq.ofCells, Bool.false_eq_true, if_false, Vq.regens_nn, Vq.regens_g0, Vq.regens_0c, Vq.regens_c, Vq.regen1, Vq.V.nextg, Option.bind_some, Option.map_some, if_true, Vq.borrows_by, Vq.byN_app, Vq.V.sz?, Vq.lenOf, Vq.TK.fits, Vq.gThere, Vq.subV, List.map_cons, List.map_nil, List.flatMap_cons, List.flatMap_nil, ge_iff_le, gt_iff_lt, Vq.byN_len, Vq.byN_takeL, beq_self_eq_true, bne_self_eq_false, s, u]))) | ((with_reducible apply Vq.gWO); (first | (with_reducible apply Vq.WO_nil) | ((with_reducible first | apply Vq.gWOs | apply Vq.gWOo); simp only [z1, z2, z3, z4, z5, z6, z7, z8, z9, z10, z11, z12, z13, z14, z15, z16, z17, z18, List.length_map, V.withLeaves, V.borrow, zero1, freeze1, borrows, borrow1, V.leaves, V.nextg, Nat.reduceAdd, Nat.reduceSub, layTup, obj1, splice, Bool.false_eq_true, if_true, if_false, Bool.not_true, Bool.not_false, Vq.take_mapl, Int.toNat_natCast, Int.toNat_zero, Nat.add_zero, Nat.sub_zero, Nat.zero_add, Int.reduceToNat, ge_iff_le, gt_iff_lt, Vq.byN_len, Vq.byN_takeL, beq_self_eq_true, bne_self_eq_false, s]) | ((with_reducible apply Vq.WO_cons); (· first | exact rfl | ((try apply S6.vguard rfl); (first | apply S11.vshrT rfl rfl (Int.natCast_nonneg _) | apply S11.vshlT rfl rfl (Int.natCast_nonneg _) | apply S11.vshlV rfl (Int.natCast_nonneg _)); exact rfl)); (try simp only [z1, z2, z3, z4, z5, z6, z7, z8, z9, z10, z11, z12, z13, z14, z15, z16, z17, z18, List.length_map, V.withLeaves, V.borrow, zero1, freeze1, borrows, borrow1, V.leaves, V.nextg, Nat.reduceAdd, Nat.reduceSub, layTup, obj1, splice, Bool.false_eq_true, if_true, if_false, Bool.not_true, Bool.not_false, Vq.take_mapl, Int.toNat_natCast, Int.toNat_zero, Nat.add_zero, Nat.sub_zero, Nat.zero_add, Int.reduceToNat, ge_iff_le, gt_iff_lt, Vq.byN_len, Vq.byN_takeL, beq_self_eq_true, bne_self_eq_false, s])) | (with_reducible apply Vq.PO_cons))) | ((with_reducible apply Vq.gWD); (first | ((with_reducible first | apply Vq.gWDs | apply Vq.gWDo); simp only [z1, z2, z3, z4, z5, z6, z7, z8, z9, z10, z11, z12, z13, z14, z15, z16, z17, z18, List.length_map, V.withLeaves, V.borrow, zero1, freeze1, borrows, borrow1, V.leaves, V.nextg, Nat.reduceAdd, Nat.reduceSub, layTup, obj1, splice, Bool.false_eq_true, if_true, if_false, Bool.not_true, Bool.not_false, Vq.take_mapl, Int.toNat_natCast, Int.toNat_zero, Nat.add_zero, Nat.sub_zero, Nat.zero_add, Int.reduceToNat, ge_iff_le, gt_iff_lt, Vq.byN_len, Vq.byN_takeL, beq_self_eq_true, bne_self_eq_false, s]) | (with_reducible first | apply Vq.PD_cons | apply Vq.WD_nil))) | ((with_reducible first | apply Vq.gQs | apply Vq.gQb); (first | (with_reducible first | apply Vq.Qs_n | apply Vq.Qs_r | apply Vq.Qs_e | apply Vq.Qb_n0 | apply Vq.Qb_x0 | apply Vq.Qb_r) | ((with_reducible apply Vq.Qb_ne); (· decide)))) | ((with_reducible apply Vq.gW); (first | (with_reducible first | apply Vq.W_seq | apply Vq.W_region | apply Vq.W_skip | apply Vq.W_ret | apply Vq.W_exit | apply Vq.W_block | apply Vq.W_draw) | ((with_reducible apply Vq.W_condT); (· exact rfl)) | ((with_reducible apply Vq.W_condF); (· exact rfl)) | ((first | ((with_reducible apply Vq.W_condD); (· exact rfl)) | ((with_reducible apply Vq.W_cond); (· exact rfl))); all_goals (intro hq; (try simp only [hq]))))) | ((with_reducible apply Vq.gLim); (first | assumption)) | ((with_reducible apply Vq.gThG); simp only [List.flatMap_cons, List.flatMap_nil, Vq.gTheres_app, Vq.V.leaves, Vq.gTheres, Vq.gThere1, Vq.gThere, Vq.gTheres_by]; done) | (exact fun _ => rfl) | (apply Vq.PA_nil) | ((with_reducible apply Vq.PA_P); (· exact rfl); (· exact rfl); (· repeat (first | (apply Vq.P0_nil) | (apply Vq.P0_c; (· exact fun _ => rfl)))); (· exact rfl)) | ((with_reducible apply Vq.PA_A); (· exact rfl); (· exact rfl)) | (exact Vq.flat_by _) | ((with_reducible apply Vq.PA_S); (· exact rfl); (· first | (apply Vq.PR_aelO; (· exact rfl); (· exact rfl); (· exact rfl)) | (apply Vq.PR_aelS; (· exact rfl); (· exact rfl); (· exact rfl)))) | ((with_reducible apply Vq.PA_T); (· exact rfl); (· intro _ e; cases e); (· (first | (exact fun _ => rfl) | (exact Vq.press_by _)))) | ((with_reducible apply Vq.PA_G); (· exact rfl); (· intro _ e; cases e); (· repeat (first | (apply Vq.PS_nil) | (apply Vq.PS_s; (· first | (apply Vq.PR_aelO; (· exact rfl); (· exact rfl); (· exact rfl)) | (apply Vq.PR_aelS; (· exact rfl); (· exact rfl); (· exact rfl))); (· (first | (simp only [Vq.byN_len, List.length_map]; done) | (simp only [Vq.byN_len, List.length_map]; omega) | (simp; done) | (simp; omega))); (· (first | exact rfl | (simp; done)))) | (apply Vq.PS_c; (· exact fun _ => rfl))))) | ((with_reducible apply Vq.PA_V); (· intro _ e; cases e)) | exact Vq.press_by _ | (with_reducible first | exact Vq.settle_by _ _ _ | exact Vq.keeps_by _ _ _ | exact fun _ => rfl) | (intro k; simp only [Vq.settle, Vq.settle1, Vq.settle_by, Vq.keeps, Vq.keep1, Vq.keeps_by]; first | done | exact rfl) | ((with_reducible first | apply Vq.gRens | apply Vq.gRen | apply Vq.gMapM); (first | (simp only [Vq.rens_by, Vq.rens_c, Vq.rens_n, Vq.ren_int, Vq.ren_bool, Vq.ren_str, Vq.ren_isl, Vq.ren_xsl, Vq.ren_fsl, Vq.ren_nilS, Vq.ren_nil, Vq.ren_iptr, Vq.ren_agg, Vq.ren_tup, Vq.ren_func, Vq.zero1_by, Vq.objRen_e, Vq.mapM_c, Vq.mapM_n, Vq.ren_ptr, Vq.gTheres_by, Vq.gTh_agg, Vq.flatMap_nil', z1, z2, z3, z4, z5, z6, z7, z8, z9, z10, z11, z12, z13, z14, z15, z16, z17, z18, List.length_map, V.withLeaves, V.borrow, zero1, freeze1, borrows, borrow1, V.leaves, V.nextg, Nat.reduceAdd, Nat.reduceSub, layTup, obj1, splice, Bool.false_eq_true, if_true, if_false, Bool.not_true, Bool.not_false, Vq.take_mapl, Int.toNat_natCast, Int.toNat_zero, Nat.add_zero, Nat.sub_zero, Nat.zero_add, Int.reduceToNat, Option.bind_some, Option.map_some, List.map_cons, List.map_nil, ge_iff_le, gt_iff_lt, Vq.byN_len, Vq.byN_takeL, beq_self_eq_true, bne_self_eq_false, s, u]; first | done | exact rfl) | exact rfl)) | ((with_reducible first | apply Vq.gSome | apply Vq.gTrue | apply Vq.gFalse); (first | exact regens_g0 _ | exact rfl | assumption | (simp only [List.flatMap_cons, List.flatMap_nil, List.append_nil, Vq.regens_by0, Vq.regens_bb, Vq.regens_zb, List.take_replicate, Nat.min_self, Nat.zero_min, List.nil_append, Vq.ofCells, Bool.false_eq_true, if_false, Vq.regens_nn, Vq.regens_g0, Vq.regens_0c, Vq.regens_c, Vq.regen1, Vq.V.nextg, Option.bind_some, Option.map_some, if_true, Vq.binV_shr, Vq.binV_shl, Int.natCast_nonneg, Vq.flat_by, Vq.byN_take, Vq.byN_len, Vq.here_by, Vq.here_int, Vq.here_bool, Vq.here_str, Vq.here_isl, Vq.here_xsl, Vq.here_nil, Vq.obj1_by, Vq.freeze1_by, Vq.inObj_by, Vq.inElem_by, Vq.plain_by, Vq.V.cells, Vq.here_intL, Vq.here_boolL, Vq.here_strL, Vq.here_islL, Vq.here_xslL, Vq.here_fslL, Vq.here_ptrL, Vq.here_nilP, Vq.V.inElem, Vq.V.inObj, List.length_append, List.length_replicate, List.length_set, List.drop_replicate, List.replicate_zero, List.append_nil, List.take_length, Nat.reduceSub, List.map_cons, List.map_nil, List.all_cons, List.all_nil, Vq.freeze1, Vq.obj1, Bool.and_true, Bool.true_and, Vq.hasX_by, Vq.hasX_int, Vq.hasX_bool, Vq.hasX_str, Vq.hasX_isl, Vq.hasX_nil, ge_iff_le, gt_iff_lt, Vq.byN_len, Vq.byN_takeL, beq_self_eq_true, bne_self_eq_false, s, u]; (first | done | exact rfl)))) | (first | (simp only [z1, z2, z3, z4, z5, z6, z7, z8, z9, z10, z11, z12, z13, z14, z15, z16, z17, z18, List.length_map, V.withLeaves, V.borrow, zero1, freeze1, borrows, borrow1, V.leaves, V.nextg, Nat.reduceAdd, Nat.reduceSub, layTup, obj1, splice, Bool.false_eq_true, if_true, if_false, Bool.not_true, Bool.not_false, Vq.take_mapl, Int.toNat_natCast, Int.toNat_zero, Nat.add_zero, Nat.sub_zero, Nat.zero_add, Int.reduceToNat, Vq.binV_shr, Vq.binV_shl, Int.natCast_nonneg, Vq.flat_by, Vq.byN_take, Vq.byN_len, Vq.here_by, Vq.here_int, Vq.here_bool, Vq.here_str, Vq.here_isl, Vq.here_xsl, Vq.here_nil, Vq.obj1_by, Vq.freeze1_by, Vq.inObj_by, Vq.inElem_by, Vq.plain_by, Vq.V.cells, Vq.here_intL, Vq.here_boolL, Vq.here_strL, Vq.here_islL, Vq.here_xslL, Vq.here_fslL, Vq.here_ptrL, Vq.here_nilP, Vq.V.inElem, Vq.V.inObj, List.length_append, List.length_replicate, List.length_set, List.drop_replicate, List.replicate_zero, List.append_nil, List.take_length, Nat.reduceSub, List.map_cons, List.map_nil, List.all_cons, List.all_nil, Vq.freeze1, Vq.obj1, Bool.and_true, Bool.true_and, List.flatMap_cons, List.flatMap_nil, List.append_nil, Vq.regens_by0, Vq.regens_bb, Vq.regens_zb, List.take_replicate, Nat.min_self, Nat.zero_min, List.nil_append, Vq.ofCells, Bool.false_eq_true, if_false, Vq.regens_nn, Vq.regens_g0, Vq.regens_0c, Vq.regens_c, Vq.regen1, Vq.V.nextg, Option.bind_some, Option.map_some, if_true, Vq.borrows_by, Vq.byN_app, Vq.V.sz?, Vq.lenOf, Vq.TK.fits, Vq.gThere, Vq.subV, List.map_cons, List.map_nil, List.flatMap_cons, List.flatMap_nil, ge_iff_le, gt_iff_lt, Vq.byN_len, Vq.byN_takeL, beq_self_eq_true, bne_self_eq_false, s, u]; (try (first | done | exact rfl))) | exact rfl | (simp only [Vq.rens_by, Vq.rens_c, Vq.rens_n, Vq.ren_int, Vq.ren_bool, Vq.ren_str, Vq.ren_isl, Vq.ren_xsl, Vq.ren_fsl, Vq.ren_nilS, Vq.ren_nil, Vq.ren_iptr, Vq.ren_agg, Vq.ren_tup, Vq.ren_func, Vq.zero1_by, Vq.objRen_e, Vq.mapM_c, Vq.mapM_n, Vq.ren_ptr, Vq.gTheres_by, Vq.gTh_agg, Vq.flatMap_nil', Vq.idsIn_by, Vq.idsIn_c, Vq.idsIn_n, Vq.ids_agg, Vq.ids_ptr, Vq.ids_int, Vq.ids_bool, Vq.ids_str, Vq.ids_isl, Vq.ids_xsl, Vq.ids_fsl, Vq.ids_nilS, List.nil_append, List.cons_append, List.append_nil]; done) | omega | decide | (simp [Vq.binV_shr, Vq.binV_shl, Int.natCast_nonneg, Vq.flat_by, Vq.byN_take, Vq.byN_len, Vq.here_by, Vq.here_int, Vq.here_bool, Vq.here_str, Vq.here_isl, Vq.here_xsl, Vq.here_nil, Vq.obj1_by, Vq.freeze1_by, Vq.inObj_by, Vq.inElem_by, Vq.plain_by, Vq.V.cells, Vq.here_intL, Vq.here_boolL, Vq.here_strL, Vq.here_islL, Vq.here_xslL, Vq.here_fslL, Vq.here_ptrL, Vq.here_nilP, Vq.V.inElem, Vq.V.inObj, List.length_append, List.length_replicate, List.length_set, List.drop_replicate, List.replicate_zero, List.append_nil, List.take_length, Nat.reduceSub, List.map_cons, List.map_nil, List.all_cons, List.all_nil, Vq.freeze1, Vq.obj1, Bool.and_true, Bool.true_and, ge_iff_le, gt_iff_lt, Vq.byN_len, Vq.byN_takeL, beq_self_eq_true, bne_self_eq_false, s, u]; (first | done | omega)) | (first | (simp; done) | (simp; omega))))); (all_goals (first | exact hQ.h | (refine Vq.Qe_r ?_; (first | kernel_rfl | exact rfl)) | (refine Vq.Qe_n ?_; (first | kernel_rfl | exact rfl)))))) : p := h s u ⟨hq⟩
end Go.Vq

/-! Loops, round by round. -/
namespace Go.Vq
section
variable {G : VProg} {base : Nat} {σ σ1 : St} {Q : Out → St → Prop}
/-- Behind one round. -/
def Qun (G : VProg) (base : Nat) (keep : Option (List Nat)) (body : VCode) (Q : Out → St → Prop) : Out → St → Prop
  | .normal, s => WL G base (.loop keep body) s Q
  | o, s => Q o s
theorem WL_unroll {keep : Option (List Nat)} {body : VCode} (hs : rebase? keep base σ = σ1) (h : WL G base body σ1 (Qun G base keep body Q)) : WL G base (.loop keep body) σ Q := by
  obtain ⟨o, s, h1, h2⟩ := h
  cases o with
  | normal =>
    obtain ⟨o', s', h3, h4⟩ := h2
    exact ⟨o', s', step_loop hs h1 (limX_step h3), h4⟩
  | exit i => exact ⟨_, _, step_loop_out hs h1 (by intro e; cases e), h2⟩
  | ret => exact ⟨_, _, step_loop_out hs h1 (by intro e; cases e), h2⟩
theorem Qu_n {keep : Option (List Nat)} {body : VCode} (h : WL G base (.loop keep body) σ Q) : Qun G base keep body Q .normal σ := h
theorem Qu_x {keep : Option (List Nat)} {body : VCode} {i : Nat} (h : Q (.exit i) σ) : Qun G base keep body Q (.exit i) σ := h
theorem Qu_r {keep : Option (List Nat)} {body : VCode} (h : Q .ret σ) : Qun G base keep body Q .ret σ := h
end
end Go.Vq

/-! A function's end, where what is handed back is lent from a slot. -/
namespace Go.Vq
theorem fin_own {fn : VFunc} {σ : St} {t h g sz n : Nat} {es : List V} (hr : fn.results = [.tmp t]) (hl : σ.slots.length = fn.ntmps) (ht : σ.slots[t]? = some (.srf (.slot h 0) g sz 0 n)) (hh : σ.slots[h]? = some (.xsl g sz es)) (hn : n = es.length) : finish fn 0 σ = some (.xsl 0 sz es, []) := by
  subst hn
  have htl := lt_of_getElem? ht
  have hhl := lt_of_getElem? hh
  have e1 : (σ.slots ++ [V.gone 0]).getD t (.gone 0) = .srf (.slot h 0) g sz 0 es.length := by
    rw [List.getD_eq_getElem?_getD, List.getElem?_append_left htl, ht]; rfl
  have e2 : (σ.slots ++ [V.gone 0]).getD h (.gone 0) = .xsl g sz es := by
    rw [List.getD_eq_getElem?_getD, List.getElem?_append_left hhl, hh]; rfl
  have run : (resProg fn.ntmps 0 fn.results).run { σ with slots := σ.slots ++ [.gone 0] } = some { slots := ((σ.slots ++ [V.gone 0]).set h (.gone (g + 1))).set fn.ntmps (.xsl 0 sz es), objs := σ.objs } := by
    rw [hr]
    simp only [resProg, getRess, getRes, gOpd, Prog.run, St.slot, e1, drain]
    have hx : V.hasX (.srf (.slot h 0) g sz 0 es.length) = false := rfl
    simp only [hx, Bool.false_eq_true, if_false, V.leaves, ress, res1, settle1, gHome, Prog.run, St.slot, e2, List.getElem?_cons_zero, Nat.zero_add, Nat.le_refl, and_self, if_true, List.drop_zero, List.take_length]
    simp only [sHome, Prog.run, St.slot, e2, V.leaves, List.length_singleton, Nat.lt_add_one, Nat.zero_lt_one, if_true, List.set_cons_zero, V.withLeaves, List.headD_cons, St.setS, List.flatMap_cons, List.flatMap_nil, List.append_nil, gTheres, gThere1]
  unfold finish
  rw [run]
  have e3 : St.slot { slots := ((σ.slots ++ [V.gone 0]).set h (.gone (g + 1))).set fn.ntmps (.xsl 0 sz es), objs := σ.objs } fn.ntmps = .xsl 0 sz es := by
    unfold St.slot
    rw [List.getD_eq_getElem?_getD, List.getElem?_set_self (by simp; omega)]; rfl
  simp only [e3]
  have e4 : V.objIds (.xsl 0 sz es) = [] := by simp [V.objIds]
  rw [e4]
  simp [reachV, V.ren]
theorem fin_cell {fn : VFunc} {σ : St} {a t1 t2 o g sz : Nat} {es : List V} {k kk1 kk2 : IntKind} {n x1 x2 : Int} (hr : fn.results = [.cell a true 2, .tmp t1, .tmp t2]) (hl : σ.slots.length = fn.ntmps) (ha : σ.slots[a]? = some (.ptr (.obj o 0)))
    (h1 : σ.slots[t1]? = some (.int kk1 x1)) (h2 : σ.slots[t2]? = some (.int kk2 x2)) (ho : σ.objs[o]? = some (some (.cells [.int k n, .xsl g sz es]))) : finish fn 0 σ = some (.tup [.agg [.int k n, .xsl 0 sz es], .int kk1 x1, .int kk2 x2], []) := by
  have hal := lt_of_getElem? ha
  have h1l := lt_of_getElem? h1
  have h2l := lt_of_getElem? h2
  have hol := lt_of_getElem? ho
  have e1 : (σ.slots ++ [V.gone 0]).getD a (.gone 0) = .ptr (.obj o 0) := by
    rw [List.getD_eq_getElem?_getD, List.getElem?_append_left hal, ha]; rfl
  have e2 : (σ.slots ++ [V.gone 0]).getD t1 (.gone 0) = .int kk1 x1 := by
    rw [List.getD_eq_getElem?_getD, List.getElem?_append_left h1l, h1]; rfl
  have e3 : (σ.slots ++ [V.gone 0]).getD t2 (.gone 0) = .int kk2 x2 := by
    rw [List.getD_eq_getElem?_getD, List.getElem?_append_left h2l, h2]; rfl
  have e4 : σ.objs.getD o none = some (.cells [.int k n, .xsl g sz es]) := by
    rw [List.getD_eq_getElem?_getD, ho]; rfl
  have hx1 : ∀ k x, V.hasX (.int k x) = false := fun _ _ => rfl
  have run : (resProg fn.ntmps 0 fn.results).run { σ with slots := σ.slots ++ [.gone 0] } = some { slots := (σ.slots ++ [V.gone 0]).set fn.ntmps (.tup [.agg [.int k n, .xsl 0 sz es], .int kk1 x1, .int kk2 x2]), objs := σ.objs.set o (some (.cells [.int k n, .gone (g + 1)])) } := by
    rw [hr]
    simp only [resProg, getRess, getRes, gOpd, Prog.run, St.slot, e1, gCells, St.obj, e4, List.length_cons, List.length_nil, Nat.zero_add, Nat.reduceAdd, Nat.le_refl, if_true, List.drop_zero, List.take_succ_cons, List.take_zero, borrows, borrow1, ofCells, optV, V.leaves, ress, res1, settle1, gHome, Nat.add_zero,
      List.getElem?_cons_succ, List.getElem?_cons_zero, List.take_length, and_self, Nat.not_lt_zero, if_false, sHome, Nat.lt_add_one, hol, List.set_cons_succ, List.set_cons_zero, V.withLeaves, St.setO, e2, e3, drain, hx1, Bool.false_eq_true, List.headD_cons,
      List.flatMap_cons, List.flatMap_nil, List.append_nil, gTheres, gThere1, List.cons_append, List.nil_append, St.setS]
  unfold finish
  rw [run]
  have e5 : St.slot { slots := (σ.slots ++ [V.gone 0]).set fn.ntmps (.tup [.agg [.int k n, .xsl 0 sz es], .int kk1 x1, .int kk2 x2]), objs := σ.objs.set o (some (.cells [.int k n, .gone (g + 1)])) } fn.ntmps = .tup [.agg [.int k n, .xsl 0 sz es], .int kk1 x1, .int kk2 x2] := by
    unfold St.slot
    rw [List.getD_eq_getElem?_getD, List.getElem?_set_self (by simp; omega)]; rfl
  simp only [e5]
  have e6 : V.objIds (.tup [.agg [.int k n, .xsl 0 sz es], .int kk1 x1, .int kk2 x2]) = [] := by simp [V.objIds, V.objIds.idsIn]
  rw [e6]
  simp [reachV, V.ren, rens]
theorem end_own {fn : VFunc} {σ : St} {t h g sz n : Nat} {es : List V} (hr : fn.results = [.tmp t]) (hl : σ.slots.length = fn.ntmps) (ht : σ.slots[t]? = some (.srf (.slot h 0) g sz 0 n)) (hh : σ.slots[h]? = some (.xsl g sz es)) (hn : n = es.length) : Qend fn 0 (some (.xsl 0 sz es, [])) .ret σ := Qe_r (fin_own hr hl ht hh hn)
end Go.Vq

/-! A function's end: a number and a list that is lent from a slot, an object handed back. -/
namespace Go.Vq
theorem fin_own2 {fn : VFunc} {σ : St} {t1 t2 h g sz n g1 g2 s1 s2 : Nat} {k kl : IntKind} {x left : Int} {off : Bool} {es a b : List V} (hr : fn.results = [.tmp t1, .tmp t2]) (hl : σ.slots.length = fn.ntmps) (h1 : σ.slots[t1]? = some (.int k x))
    (ht : σ.slots[t2]? = some (.srf (.slot h 0) g sz 0 n)) (hh : σ.slots[h]? = some (.xsl g sz es)) (hn : n = es.length) (ho : σ.objs[0]? = some (some (.cells [.xsl g1 s1 a, .fsl g2 s2 b, .bool off, .int kl left]))) :
    finish fn 1 σ = some (.tup [.int k x, .xsl 0 sz es], [.cells [.xsl 0 s1 a, .fsl 0 s2 b, .bool off, .int kl left]]) := by
  subst hn
  have h1l := lt_of_getElem? h1
  have htl := lt_of_getElem? ht
  have hhl := lt_of_getElem? hh
  have hol := lt_of_getElem? ho
  have e0 : (σ.slots ++ [V.gone 0]).getD t1 (.gone 0) = .int k x := by
    rw [List.getD_eq_getElem?_getD, List.getElem?_append_left h1l, h1]; rfl
  have e1 : (σ.slots ++ [V.gone 0]).getD t2 (.gone 0) = .srf (.slot h 0) g sz 0 es.length := by
    rw [List.getD_eq_getElem?_getD, List.getElem?_append_left htl, ht]; rfl
  have e2 : (σ.slots ++ [V.gone 0]).getD h (.gone 0) = .xsl g sz es := by
    rw [List.getD_eq_getElem?_getD, List.getElem?_append_left hhl, hh]; rfl
  have hx1 : ∀ k x, V.hasX (.int k x) = false := fun _ _ => rfl
  have run : (resProg fn.ntmps 1 fn.results).run { σ with slots := σ.slots ++ [.gone 0] } = some { slots := ((σ.slots ++ [V.gone 0]).set h (.gone (g + 1))).set fn.ntmps (.tup [.int k x, .xsl 0 sz es]), objs := σ.objs } := by
    rw [hr]
    have hx : V.hasX (.srf (.slot h 0) g sz 0 es.length) = false := rfl
    simp only [resProg, getRess, getRes, gOpd, Prog.run, St.slot, e0, e1, drain, hx, hx1, Bool.false_eq_true, if_false, V.leaves, ress, res1, V.withLeaves, List.headD_cons, settle1, gHome, e2, List.getElem?_cons_zero, Nat.zero_add, Nat.le_refl, and_self, if_true, List.drop_zero, List.take_length]
    simp only [sHome, Prog.run, St.slot, e2, V.leaves, List.length_singleton, Nat.lt_add_one, Nat.zero_lt_one, if_true, List.set_cons_zero, V.withLeaves, List.headD_cons, St.setS, List.flatMap_cons, List.flatMap_nil, List.append_nil, gTheres, gThere1, List.cons_append, List.nil_append]
  unfold finish
  rw [run]
  have e3 : St.slot { slots := ((σ.slots ++ [V.gone 0]).set h (.gone (g + 1))).set fn.ntmps (.tup [.int k x, .xsl 0 sz es]), objs := σ.objs } fn.ntmps = .tup [.int k x, .xsl 0 sz es] := by
    unfold St.slot
    rw [List.getD_eq_getElem?_getD, List.getElem?_set_self (by simp; omega)]; rfl
  simp only [e3]
  have e4 : V.objIds (.tup [.int k x, .xsl 0 sz es]) = [] := by simp [V.objIds, V.objIds.idsIn]
  rw [e4]
  have e5 : ∀ sl, St.obj { slots := sl, objs := σ.objs } 0 = some (.cells [.xsl g1 s1 a, .fsl g2 s2 b, .bool off, .int kl left]) := fun sl => by
    unfold St.obj; rw [List.getD_eq_getElem?_getD, ho]; rfl
  simp [reachV, V.ren, rens, List.range_succ, e5, V.objIds, V.objIds.idsIn, objRen, zero1, mapM_c, mapM_n]
end Go.Vq

namespace Go.Vq
theorem fin_own3 {fn : VFunc} {σ : St} {t1 t2 h g sz n g1 g2 g3 g4 s1 s2 s3 s4 : Nat} {k kl : IntKind} {x left : Int} {off off2 : Bool} {es a b c d : List V} (hr : fn.results = [.tmp t1, .tmp t2]) (hl : σ.slots.length = fn.ntmps) (h1 : σ.slots[t1]? = some (.int k x))
    (ht : σ.slots[t2]? = some (.srf (.slot h 0) g sz 0 n)) (hh : σ.slots[h]? = some (.xsl g sz es)) (hn : n = es.length) (ho : σ.objs[0]? = some (some (.cells [.xsl g1 s1 a, .xsl g2 s2 b, .xsl g3 s3 c, .xsl g4 s4 d, .bool off, .bool off2, .int kl left]))) :
    finish fn 1 σ = some (.tup [.int k x, .xsl 0 sz es], [.cells [.xsl 0 s1 a, .xsl 0 s2 b, .xsl 0 s3 c, .xsl 0 s4 d, .bool off, .bool off2, .int kl left]]) := by
  subst hn
  have h1l := lt_of_getElem? h1
  have htl := lt_of_getElem? ht
  have hhl := lt_of_getElem? hh
  have hol := lt_of_getElem? ho
  have e0 : (σ.slots ++ [V.gone 0]).getD t1 (.gone 0) = .int k x := by
    rw [List.getD_eq_getElem?_getD, List.getElem?_append_left h1l, h1]; rfl
  have e1 : (σ.slots ++ [V.gone 0]).getD t2 (.gone 0) = .srf (.slot h 0) g sz 0 es.length := by
    rw [List.getD_eq_getElem?_getD, List.getElem?_append_left htl, ht]; rfl
  have e2 : (σ.slots ++ [V.gone 0]).getD h (.gone 0) = .xsl g sz es := by
    rw [List.getD_eq_getElem?_getD, List.getElem?_append_left hhl, hh]; rfl
  have hx1 : ∀ k x, V.hasX (.int k x) = false := fun _ _ => rfl
  have run : (resProg fn.ntmps 1 fn.results).run { σ with slots := σ.slots ++ [.gone 0] } = some { slots := ((σ.slots ++ [V.gone 0]).set h (.gone (g + 1))).set fn.ntmps (.tup [.int k x, .xsl 0 sz es]), objs := σ.objs } := by
    rw [hr]
    have hx : V.hasX (.srf (.slot h 0) g sz 0 es.length) = false := rfl
    simp only [resProg, getRess, getRes, gOpd, Prog.run, St.slot, e0, e1, drain, hx, hx1, Bool.false_eq_true, if_false, V.leaves, ress, res1, V.withLeaves, List.headD_cons, settle1, gHome, e2, List.getElem?_cons_zero, Nat.zero_add, Nat.le_refl, and_self, if_true, List.drop_zero, List.take_length]
    simp only [sHome, Prog.run, St.slot, e2, V.leaves, List.length_singleton, Nat.lt_add_one, Nat.zero_lt_one, if_true, List.set_cons_zero, V.withLeaves, List.headD_cons, St.setS, List.flatMap_cons, List.flatMap_nil, List.append_nil, gTheres, gThere1, List.cons_append, List.nil_append]
  unfold finish
  rw [run]
  have e3 : St.slot { slots := ((σ.slots ++ [V.gone 0]).set h (.gone (g + 1))).set fn.ntmps (.tup [.int k x, .xsl 0 sz es]), objs := σ.objs } fn.ntmps = .tup [.int k x, .xsl 0 sz es] := by
    unfold St.slot
    rw [List.getD_eq_getElem?_getD, List.getElem?_set_self (by simp; omega)]; rfl
  simp only [e3]
  have e4 : V.objIds (.tup [.int k x, .xsl 0 sz es]) = [] := by simp [V.objIds, V.objIds.idsIn]
  rw [e4]
  have e5 : ∀ sl, St.obj { slots := sl, objs := σ.objs } 0 = some (.cells [.xsl g1 s1 a, .xsl g2 s2 b, .xsl g3 s3 c, .xsl g4 s4 d, .bool off, .bool off2, .int kl left]) := fun sl => by
    unfold St.obj; rw [List.getD_eq_getElem?_getD, ho]; rfl
  simp [reachV, V.ren, rens, List.range_succ, e5, V.objIds, V.objIds.idsIn, objRen, zero1, mapM_c, mapM_n]
end Go.Vq

/-! Arguments of bytes. -/
namespace Go.Vq
theorem bytes_nat (bs : List Int) (h : ∀ b ∈ bs, (Lit.int .u8 b).wf = true) : ∃ l : List Nat, bs.map (V.int .u8) = byN l ∧ ∀ x ∈ l, x < 256 := by
  have hr : ∀ b ∈ bs, 0 ≤ b ∧ b < 256 := fun b hb => by
    have := h b hb
    simp [Lit.wf, IntKind.min, IntKind.max, IntKind.signed, IntKind.bits] at this
    omega
  refine ⟨bs.map Int.toNat, ?_, fun x hx => ?_⟩
  · simp only [byN, List.map_map]
    refine List.map_congr_left fun b hb => ?_
    have := hr b hb
    simp only [Function.comp]
    congr 1
    omega
  · obtain ⟨b, hb, rfl⟩ := List.mem_map.1 hx
    have := hr b hb
    omega
end Go.Vq

namespace Go.Vq
namespace P1
open Go
set_option maxRecDepth 1000000
/-! ### numbers -/
theorem wrapi64 (n : Int) (h1 : -9223372036854775808 ≤ n) (h2 : n < 9223372036854775808) : IntKind.i64.wrap n = n := by
  simp only [IntKind.wrap, IntKind.bits, IntKind.signed]; simp; omega
theorem inc64 (i : Nat) (h : i < 4611686018427387904) : IntKind.i64.wrap ((i : Int) + 1) = ((i + 1 : Nat) : Int) := by
  rw [wrapi64 _ (by omega) (by omega)]; rfl
theorem xorN {w : Nat} (A B : Nat) (hA : A < 2 ^ w) (hB : B < 2 ^ w) : (BitVec.ofInt w (A : Int) ^^^ BitVec.ofInt w (B : Int)).toNat = A ^^^ B := by
  simp only [BitVec.ofInt_natCast, BitVec.toNat_xor, BitVec.toNat_ofNat, Nat.mod_eq_of_lt hA, Nat.mod_eq_of_lt hB]
theorem andN {w : Nat} (A B : Nat) (hA : A < 2 ^ w) (hB : B < 2 ^ w) : (BitVec.ofInt w (A : Int) &&& BitVec.ofInt w (B : Int)).toNat = A &&& B := by
  simp only [BitVec.ofInt_natCast, BitVec.toNat_and, BitVec.toNat_ofNat, Nat.mod_eq_of_lt hA, Nat.mod_eq_of_lt hB]
theorem orN {w : Nat} (A B : Nat) (hA : A < 2 ^ w) (hB : B < 2 ^ w) : (BitVec.ofInt w (A : Int) ||| BitVec.ofInt w (B : Int)).toNat = A ||| B := by
  simp only [BitVec.ofInt_natCast, BitVec.toNat_or, BitVec.toNat_ofNat, Nat.mod_eq_of_lt hA, Nat.mod_eq_of_lt hB]
theorem wrap8 (n : Nat) (h : n < 256) : IntKind.u8.wrap (n : Int) = n := by
  simp only [IntKind.wrap, IntKind.bits, IntKind.signed]; simp; omega
theorem wrap32 (n : Nat) (h : n < 2 ^ 32) : IntKind.u32.wrap (n : Int) = n := by
  simp only [IntKind.wrap, IntKind.bits, IntKind.signed]; simp; omega
theorem wrap64 (n : Nat) (h : n < 2 ^ 64) : IntKind.u64.wrap (n : Int) = n := by
  simp only [IntKind.wrap, IntKind.bits, IntKind.signed]; simp; omega
def strN (l : List Nat) : List UInt8 := l.map UInt8.ofNat
theorem textV_by (l : List Nat) : textV (byN l) = some (strN l) := by
  induction l with
  | nil => rfl
  | cons x l ih => rw [byN_cons]; simp only [textV, ih]; rfl
theorem byN_sub' (l : List Nat) (a b : Nat) : List.take a (List.drop b (byN l)) = byN ((l.drop b).take a) := by rw [byN_drop, byN_take]
theorem wrap8m (n : Nat) : IntKind.u8.wrap (n : Int) = ((n % 256 : Nat) : Int) := by simp only [IntKind.wrap, IntKind.bits, IntKind.signed]; simp
theorem byN_get (l : List Nat) (i : Nat) (h : i < l.length) : (byN l)[i]? = some (.int .u8 (l[i] : Nat)) := by simp [byN, h]
theorem apart_xs (l : List Nat) : V.apart (.xsl 0 1 (byN l)) = true := by simp [V.apart, V.leaves, byN, V.noslice]
/-- What runV wants to know of a cell. -/
theorem cf {c : List Nat} (h : c.length = 64) : c.length = 64 ∧ List.take 64 (byN c) = byN c ∧ List.drop 64 (byN c) = [] ∧ (∀ r, List.take 64 (byN c ++ r) = byN c) ∧ (∀ r, List.drop 64 (byN c ++ r) = r) :=
  ⟨h, take_by h, drop_by h, take_byA h, drop_byA h⟩
theorem sf : (∀ (b : List Nat) (vs : List V), V.hasX (.tup (.agg (byN b) :: vs)) = V.hasX (.tup vs)) ∧ (∀ (k : IntKind) (n : Int) (vs : List V), V.hasX (.tup (.int k n :: vs)) = V.hasX (.tup vs)) ∧ V.hasX (.tup []) = false := ⟨hasX_tA, hasX_tI, hasX_t0⟩
end P1
end Go.Vq

