/- A machine of values and its tie to the model, and runs of it: part 11 of 14 (no law of Go is stated here). -/
import Derived.Test.YtigbpkocmklbpaaF10
set_option linter.unusedVariables false
set_option linter.unusedSimpArgs false
set_option linter.unusedSectionVars false
namespace Go.Vq
def Fac {α : Type} (p : (α → Prog) → Prog) : Prop := ∀ σ, (∀ K, (p K).run σ = none) ∨ ∃ a σ' rs ws, ∀ K, (p K).run σ = (K a).run σ' ∧ (p K).foot σ = (rs ++ ((K a).foot σ').1, ws ++ ((K a).foot σ').2)
section
variable {α β : Type}
theorem Fac.k (a : α) : Fac fun K => K a := fun σ => .inr ⟨a, σ, [], [], fun _ => ⟨rfl, rfl⟩⟩
theorem Fac.fail : Fac fun (_ : α → Prog) => Prog.fail := fun _ => .inl fun _ => rfl
theorem Fac.getS {s : Nat} {p : V → (α → Prog) → Prog} (h : ∀ v, Fac (p v)) : Fac fun K => Prog.getS s fun v => p v K := fun σ => by
  rcases h (σ.slot s) σ with h1 | ⟨a, σ', rs, ws, h1⟩
  · exact .inl fun K => h1 K
  · exact .inr ⟨a, σ', .slot s :: rs, ws, fun K => ⟨(h1 K).1, by simp only [Prog.foot, (h1 K).2, List.cons_append]⟩⟩
theorem Fac.getO {s : Nat} {p : Option Obj → (α → Prog) → Prog} (h : ∀ v, Fac (p v)) : Fac fun K => Prog.getO s fun v => p v K := fun σ => by
  rcases h (σ.obj s) σ with h1 | ⟨a, σ', rs, ws, h1⟩
  · exact .inl fun K => h1 K
  · exact .inr ⟨a, σ', .obj s :: rs, ws, fun K => ⟨(h1 K).1, by simp only [Prog.foot, (h1 K).2, List.cons_append]⟩⟩
theorem Fac.setS {s : Nat} {v : V} {p : (α → Prog) → Prog} (h : Fac p) : Fac fun K => Prog.setS s v (p K) := fun σ => by
  rcases h (σ.setS s v) with h1 | ⟨a, σ', rs, ws, h1⟩
  · exact .inl fun K => h1 K
  · exact .inr ⟨a, σ', rs, .slot s :: ws, fun K => ⟨(h1 K).1, by simp only [Prog.foot, (h1 K).2, List.cons_append]⟩⟩
theorem Fac.setO {s : Nat} {v : Option Obj} {p : (α → Prog) → Prog} (h : Fac p) : Fac fun K => Prog.setO s v (p K) := fun σ => by
  by_cases hs : s < σ.objs.length
  · rcases h (σ.setO s v) with h1 | ⟨a, σ', rs, ws, h1⟩
    · exact .inl fun K => by simp only [Prog.run, if_pos hs]; exact h1 K
    · exact .inr ⟨a, σ', rs, .obj s :: ws, fun K => ⟨by simp only [Prog.run, if_pos hs]; exact (h1 K).1, by simp only [Prog.foot, (h1 K).2, List.cons_append]⟩⟩
  · exact .inl fun K => by simp only [Prog.run, if_neg hs]
theorem Fac.bind {p : (β → Prog) → Prog} {q : β → (α → Prog) → Prog} (hp : Fac p) (hq : ∀ b, Fac (q b)) : Fac fun K => p fun b => q b K := fun σ => by
  rcases hp σ with h1 | ⟨b, σ', rs, ws, h1⟩
  · exact .inl fun K => h1 _
  · rcases hq b σ' with h2 | ⟨a, σ2, rs2, ws2, h2⟩
    · exact .inl fun K => by rw [(h1 _).1]; exact h2 K
    · exact .inr ⟨a, σ2, rs ++ rs2, ws ++ ws2, fun K => ⟨by rw [(h1 _).1]; exact (h2 K).1, by rw [(h1 _).2, (h2 K).2]; simp only [List.append_assoc]⟩⟩
theorem Fac.ite {c : Prop} [Decidable c] {p q : (α → Prog) → Prog} (hp : Fac p) (hq : Fac q) : Fac fun K => if c then p K else q K := by
  by_cases h : c
  · simp only [if_pos h]; exact hp
  · simp only [if_neg h]; exact hq
theorem Fac.map {p : (β → Prog) → Prog} (hp : Fac p) (f : β → α) : Fac fun (K : α → Prog) => p fun b => K (f b) := Fac.bind hp fun b => Fac.k (f b)
end
theorem fac_gOpd (x : Opd) : Fac (gOpd x) := by
  cases x with
  | tmp t => exact Fac.getS fun v => Fac.k v
  | val v => exact Fac.k v
theorem fac_gHome (h : Home) : Fac (gHome h) := by
  cases h with
  | slot s off =>
    refine Fac.getS fun v => ?_
    split
    · exact Fac.k _
    · exact Fac.fail
  | obj o off =>
    refine Fac.getO fun v => ?_
    split
    · split
      · exact Fac.k _
      · exact Fac.fail
    · exact Fac.fail
theorem fac_sHome (h : Home) (x : V) : Fac fun (K : Unit → Prog) => sHome h x (K ()) := by
  cases h with
  | slot s off => exact Fac.getS fun v => Fac.ite (Fac.setS (Fac.k ())) Fac.fail
  | obj o off =>
    refine Fac.getO fun v => ?_
    split
    · exact Fac.ite (Fac.setO (Fac.k ())) Fac.fail
    · exact Fac.fail
theorem fac_gElems (h : Home) (g sz : Nat) : Fac fun (K : Bool × List V → Prog) => gElems h g sz fun b es => K (b, es) := by
  refine Fac.bind (fac_gHome h) fun v => ?_
  cases v <;> first | exact Fac.fail | exact Fac.ite (Fac.k _) Fac.fail
theorem fac_gCells (r : Ref) (n : Nat) : Fac (gCells r n) := by
  cases r with
  | obj o off =>
    refine Fac.getO fun v => ?_
    split
    · exact Fac.ite (Fac.k _) Fac.fail
    · exact Fac.fail
  | elem h g sz i off =>
    refine Fac.bind (p := fun K => gElems h g sz fun b es => K (b, es)) (q := fun b K => match b.2[i]? with
      | some e => if off + n ≤ e.cells.length then K ((e.cells.drop off).take n) else .fail
      | none => .fail) (fac_gElems h g sz) fun b => ?_
    split
    · exact Fac.ite (Fac.k _) Fac.fail
    · exact Fac.fail
theorem fac_settle1 (h : Option Home) (v : V) : Fac (settle1 h v) := by
  cases v with
  | srf h' g sz off len =>
    refine Fac.bind (p := gHome h') (q := fun (x : V) (k : V → Prog) => match x with
      | .xsl g' sz' es =>
        if g' = g ∧ sz' = sz ∧ off + len ≤ es.length then
          if h = some h' then sHome h' (.gone (g + 1)) (k (.xsl 0 sz ((es.drop off).take len)))
          else sHome h' (.fsl g sz es) (k (.isl 0 sz ((es.drop off).take len)))
        else .fail
      | .fsl g' sz' es =>
        if g' = g ∧ sz' = sz ∧ off + len ≤ es.length then
          if h = some h' then sHome h' (.gone (g + 1)) (k (if off + len = es.length then .fsl 0 sz ((es.drop off).take len) else .isl 0 sz ((es.drop off).take len)))
          else k (.isl 0 sz ((es.drop off).take len))
        else .fail
      | .isl g' sz' es => if g' = g ∧ sz' = sz ∧ off + len ≤ es.length then k (.isl 0 sz ((es.drop off).take len)) else .fail
      | _ => .fail) (fac_gHome h') fun x => ?_
    cases x with
    | xsl => exact Fac.ite (Fac.ite (Fac.bind (fac_sHome _ _) fun _ => Fac.k _) (Fac.bind (fac_sHome _ _) fun _ => Fac.k _)) Fac.fail
    | fsl => exact Fac.ite (Fac.ite (Fac.bind (fac_sHome _ _) fun _ => Fac.k _) (Fac.k _)) Fac.fail
    | isl => exact Fac.ite (Fac.k _) Fac.fail
    | _ => exact Fac.fail
  | _ => exact Fac.k _
theorem fac_settle (mk : Nat → Option Home) : ∀ (vs : List V) (i : Nat), Fac (settle mk i vs)
  | [], _ => Fac.k []
  | v :: vs, i => Fac.bind (p := settle1 (mk i) v) (q := fun v' K => settle mk (i + 1) vs fun vs' => K (v' :: vs')) (fac_settle1 (mk i) v) fun v' => Fac.bind (p := settle mk (i + 1) vs) (q := fun vs' K => K (v' :: vs')) (fac_settle mk vs (i + 1)) fun _ => Fac.k _
theorem fac_lendArg (x : Opd) : Fac (lendArg x) := by
  refine Fac.bind (p := gOpd x) (q := fun (v : V) (k : V → Prog) => match x, v with
    | _, .tup _ => .fail
    | .tmp t, v => settle (fun _ => none) 0 (borrows (.slot t) 0 v.leaves) fun ls => k (v.withLeaves (ls.map freeze1))
    | .val _, v => k (v.withLeaves (v.leaves.map freeze1))) (fac_gOpd x) fun v => ?_
  split
  · exact Fac.fail
  · exact Fac.bind (p := settle _ _ _) (q := fun ls k => k (_)) (fac_settle _ _ _) fun ls => Fac.k _
  · exact Fac.k _
theorem fac_lendArgs : ∀ xs, Fac (lendArgs xs)
  | [] => Fac.k []
  | x :: xs => Fac.bind (p := lendArg x) (q := fun v k => lendArgs xs fun vs => k (v :: vs)) (fac_lendArg x) fun v => Fac.bind (p := lendArgs xs) (q := fun vs k => k (v :: vs)) (fac_lendArgs xs) fun _ => Fac.k _
theorem fac_gThere1 (v : V) : Fac fun (K : Unit → Prog) => gThere1 v (K ()) := by
  cases v with
  | ptr r =>
    cases r with
    | obj => exact Fac.k ()
    | elem h g sz i off => exact Fac.bind (p := fun K => gElems h g sz fun b es => K (b, es)) (fac_gElems h g sz) fun _ => Fac.k ()
  | _ => exact Fac.k ()
theorem fac_gTheres : ∀ vs, Fac fun (K : Unit → Prog) => gTheres vs (K ())
  | [] => Fac.k ()
  | v :: vs => Fac.bind (fac_gThere1 v) fun _ => fac_gTheres vs
theorem fac_reach : ∀ (n : Nat) (todo acc : List Nat), Fac (reach n todo acc)
  | 0, [], acc => Fac.k acc
  | _ + 1, [], acc => Fac.k acc
  | 0, _ :: _, _ => Fac.fail
  | n + 1, o :: todo, acc => by
    show Fac fun k => if o ∈ acc then reach n todo acc k
    else .getO o fun
      | some (.cells cs) => reach n (todo ++ V.objIds.idsIn cs) (acc ++ [o]) k
      | _ => .fail
    refine Fac.ite (fac_reach n _ _) (Fac.getO fun v => ?_)
    split
    · exact fac_reach n _ _
    · exact Fac.fail
theorem fac_getObjs : ∀ os, Fac (getObjs os)
  | [] => Fac.k []
  | o :: os => by
    refine Fac.getO fun v => ?_
    split
    · exact Fac.bind (p := getObjs os) (q := fun xs k => k (_ :: xs)) (fac_getObjs os) fun _ => Fac.k _
    · exact Fac.fail
theorem fac_pres0 (v : V) : Fac (pres0 v) := by
  cases v with
  | srf h g sz off len => exact Fac.bind (p := fun K => gElems h g sz fun b es => K (b, es)) (q := fun (b : Bool × List V) (k : V → Prog) => if off + len ≤ b.2.length then k (.isl 0 sz ((b.2.drop off).take len)) else .fail) (fac_gElems _ _ _) fun b => Fac.ite (Fac.k _) Fac.fail
  | asl r len => exact Fac.bind (p := gCells r len) (q := fun (cs : List V) (k : V → Prog) => if cs.all V.flat then k (.isl 0 1 cs) else .fail) (fac_gCells _ _) fun b => Fac.ite (Fac.k _) Fac.fail
  | func f caps => exact Fac.ite (Fac.k _) Fac.fail
  | ptr _ => exact Fac.fail
  | map _ => exact Fac.fail
  | agg _ => exact Fac.fail
  | tup _ => exact Fac.fail
  | _ => exact Fac.k _
theorem fac_press0 : ∀ vs, Fac (press0 vs)
  | [] => Fac.k []
  | v :: vs => Fac.bind (p := pres0 v) (q := fun v' k => press0 vs fun vs' => k (v' :: vs')) (fac_pres0 v) fun v' => Fac.bind (p := press0 vs) (q := fun vs' k => k (v' :: vs')) (fac_press0 vs) fun _ => Fac.k _
theorem fac_pres1 (v : V) : Fac (pres1 v) := by
  by_cases h : ∃ o off, v = .ptr (.obj o off)
  · obtain ⟨o, off, rfl⟩ := h
    refine Fac.getO fun x => ?_
    split
    · exact Fac.bind (p := press0 _) (q := fun (ls : List V) (k : V → Prog) => if ls.all V.inElem then k (.iptr ls) else .fail) (fac_press0 _) fun ls => Fac.ite (Fac.k _) Fac.fail
    · exact Fac.fail
  · have e : pres1 v = pres0 v := by
      funext k
      unfold pres1
      split
      · exact absurd ⟨_, _, rfl⟩ h
      · rfl
    rw [e]
    exact fac_pres0 v
theorem fac_press : ∀ vs, Fac (press vs)
  | [] => Fac.k []
  | v :: vs => Fac.bind (p := pres1 v) (q := fun v' k => press vs fun vs' => k (v' :: vs')) (fac_pres1 v) fun v' => Fac.bind (p := press vs) (q := fun vs' k => k (v' :: vs')) (fac_press vs) fun _ => Fac.k _
theorem fac_presArg (x : Opd) : Fac (presArg x) := by
  refine Fac.bind (p := gOpd x) (q := fun (v : V) (k : V → Prog) => match v with
    | .tup _ => .fail
    | v => press v.leaves fun ls => k (v.withLeaves ls)) (fac_gOpd x) fun v => ?_
  split
  · exact Fac.fail
  · exact Fac.bind (p := press _) (q := fun ls k => k (_)) (fac_press _) fun ls => Fac.k _
theorem fac_presArgs : ∀ xs, Fac (presArgs xs)
  | [] => Fac.k []
  | x :: xs => Fac.bind (p := presArg x) (q := fun v k => presArgs xs fun vs => k (v :: vs)) (fac_presArg x) fun v => Fac.bind (p := presArgs xs) (q := fun vs k => k (v :: vs)) (fac_presArgs xs) fun _ => Fac.k _
theorem fac_drain (x : Opd) : Fac fun (K : Unit → Prog) => drain x (K ()) := by
  cases x with
  | tmp t => exact Fac.getS fun v => Fac.ite (Fac.setS (Fac.k ())) (Fac.k ())
  | val v => exact Fac.k ()
theorem fac_gMove (mk : Nat → Option Home) (x : Opd) : Fac (gMove mk x) := by
  refine Fac.bind (p := gOpd x) (q := fun (v : V) (k : V → Prog) => if v.plain then k v else drain x <| settle mk 0 v.leaves fun ls => k (v.withLeaves ls)) (fac_gOpd x) fun v => ?_
  exact Fac.ite (Fac.k _) (Fac.bind (p := fun K => drain x (K ())) (q := fun _ K => settle mk 0 v.leaves fun ls => K (v.withLeaves ls)) (fac_drain x) fun _ => Fac.bind (p := settle _ _ _) (q := fun ls k => k (_)) (fac_settle _ _ _) fun ls => Fac.k _)
theorem fac_moveArg (x : Opd) : Fac (moveArg x) := Fac.bind (p := gOpd x) (q := fun (v : V) (k : V → Prog) => gMove (srcHome v) x k) (fac_gOpd x) fun v => fac_gMove _ _
theorem fac_moveArgs : ∀ mv xs, Fac (moveArgs mv xs)
  | _, [] => Fac.k []
  | mv, x :: xs => by
    show Fac fun k => if mv % 2 = 1 then moveArg x fun v => moveArgs (mv / 2) xs fun vs => k (v :: vs) else lendArg x fun v => moveArgs (mv / 2) xs fun vs => k (v :: vs)
    refine Fac.ite ?_ ?_
    · exact Fac.bind (p := moveArg x) (q := fun v k => moveArgs (mv / 2) xs fun vs => k (v :: vs)) (fac_moveArg x) fun v => Fac.bind (p := moveArgs (mv / 2) xs) (q := fun vs k => k (v :: vs)) (fac_moveArgs _ xs) fun _ => Fac.k _
    · exact Fac.bind (p := lendArg x) (q := fun v k => moveArgs (mv / 2) xs fun vs => k (v :: vs)) (fac_lendArg x) fun v => Fac.bind (p := moveArgs (mv / 2) xs) (q := fun vs k => k (v :: vs)) (fac_moveArgs _ xs) fun _ => Fac.k _
theorem callR_once {cal : Callee} {f : FuncId} {first : Nat} {dst : Option Nat} {p : (List V → Prog) → Prog} (hp : Fac p) {σ σ1 : St} (h : (p fun vs => callR cal f first dst vs).run σ = some σ1) :
    ∃ vs os r, cal f vs os = some r ∧ ∀ cal' : Callee, cal' f vs os = some r → (p fun vs => callR cal' f first dst vs).run σ = some σ1 ∧ (p fun vs => callR cal' f first dst vs).foot σ = (p fun vs => callR cal f first dst vs).foot σ := by
    have hf : Fac fun (K : List V × List Nat × List Obj → Prog) => p fun vs => gTheres (vs.flatMap V.leaves) <| reach 64 (V.objIds.idsIn vs) [] fun ids => getObjs ids fun os => K (vs, ids, os) :=
      Fac.bind hp fun vs => Fac.bind (p := fun (K : Unit → Prog) => gTheres (vs.flatMap V.leaves) (K ())) (q := fun _ K => reach 64 (V.objIds.idsIn vs) [] fun ids => getObjs ids fun os => K (vs, ids, os)) (fac_gTheres _) fun _ => Fac.bind (fac_reach _ _ _) fun ids => Fac.bind (fac_getObjs _) fun os => Fac.k _
    obtain ⟨B, hB⟩ : ∃ B : Callee → List V × List Nat × List Obj → Prog, B = fun c x => if x.2.1.Nodup then
      match rens (findIdx x.2.1) x.1, x.2.2.mapM (objRen (findIdx x.2.1)) with
      | some vs', some os' =>
        match c f vs' os' with
        | some (r, os'') =>
          match r.ren ((x.2.1 ++ newIds first (os''.length - x.2.1.length))[·]?), os''.mapM (objRen ((x.2.1 ++ newIds first (os''.length - x.2.1.length))[·]?)) with
          | some r', some os3 =>
            if ¬ (x.2.1 ++ newIds first (os''.length - x.2.1.length)).Nodup ∨ os''.length < x.2.1.length then .fail else
            setObjs x.2.1 (os3.take x.2.1.length) <| newObjs first (os3.drop x.2.1.length) <| resRef r' fun r'' => putO dst r'' .ret
          | _, _ => .fail
        | none => .fail
      | _, _ => .fail
    else .fail := ⟨_, rfl⟩
    have hun : ∀ c : Callee, (p fun vs => callR c f first dst vs) = p fun vs => gTheres (vs.flatMap V.leaves) <| reach 64 (V.objIds.idsIn vs) [] fun ids => getObjs ids fun os => B c (vs, ids, os) := fun c => by rw [hB]; rfl
    rcases hf σ with h1 | ⟨⟨vs, ids, os⟩, σ', rs, ws, h1⟩
    · rw [hun, h1] at h; cases h
    · rw [hun, (h1 _).1, hB] at h
      dsimp only at h
      split at h
      · rename_i hnd
        split at h
        · rename_i vs' os' hv ho
          split at h
          · rename_i r os2 hr
            refine ⟨vs', os', (r, os2), hr, fun cal' hc => ?_⟩
            rw [hun, hun, (h1 _).1, (h1 _).2, (h1 _).2, hB]
            simp only [if_pos hnd, hv, ho, hr, hc]
            exact ⟨h, trivial⟩
          · cases h
        · cases h
      · cases h
theorem callP_once {cal : Callee} {ap : Bool} {f : FuncId} {first : Nat} {dst : Option Nat} {args : List Opd} {caps : List V} {σ σ1 : St} (h : (callP cal ap f first dst args caps).run σ = some σ1) :
    ∃ vs os r, cal f vs os = some r ∧ ∀ cal' : Callee, cal' f vs os = some r → (callP cal' ap f first dst args caps).run σ = some σ1 ∧ (callP cal' ap f first dst args caps).foot σ = (callP cal ap f first dst args caps).foot σ := by
  cases ap with
  | true =>
    rcases fac_presArgs args σ with h1 | ⟨vs, σ', rs, ws, h1⟩
    · unfold callP at h; simp only [if_true] at h; rw [h1] at h; cases h
    · unfold callP at h
      simp only [if_true] at h
      rw [(h1 _).1] at h
      split at h
      · rename_i hi
        split at h
        · rename_i r hr
          refine ⟨_, _, _, hr, fun cal' hc => ?_⟩
          unfold callP
          simp only [if_true]
          rw [(h1 _).1, (h1 _).2, (h1 _).2]
          simp only [if_pos hi, hr, hc]
          exact ⟨h, trivial⟩
        · cases h
      · cases h
  | false => exact callR_once (p := fun K => lendArgs args fun vs => K (vs ++ caps)) (Fac.map (fac_lendArgs args) fun vs => vs ++ caps) h
theorem calliP_once {cal : Callee} {f : FuncId} {d : Option Nat} {args : List Opd} {σ σ1 : St} (h : (calliP cal f d args).run σ = some σ1) :
    ∃ vs os r, cal f vs os = some r ∧ ∀ cal' : Callee, cal' f vs os = some r → (calliP cal' f d args).run σ = some σ1 ∧ (calliP cal' f d args).foot σ = (calliP cal f d args).foot σ := by
  match args, h with
  | [], h => cases h
  | _ :: _ :: _, h => cases h
  | [x], h =>
    obtain ⟨B, hB⟩ : ∃ B : Callee → Home → Nat → Nat → List V → Prog, B = fun c h g sz es => match c f [.isl 0 sz es] [] with
            | some (.isl _ sz' fs, [.map _]) =>
              if sz' = sz ∧ fs.length = es.length then
                if es.length = 0 then putO d (.tup []) .ret else sHome h (.xsl g sz fs) (putO d (.tup []) .ret)
              else .fail
            | _ => .fail := ⟨_, rfl⟩
    obtain ⟨K, k0, k1, k2, k3⟩ : ∃ K : Callee → V → Prog, (∀ c, calliP c f d [x] = gOpd x (K c)) ∧ (∀ c h g sz off len, K c (.srf h g sz off len) = gElems h g sz fun own es => if own = true ∧ off = 0 ∧ len = es.length ∧ es.length ≤ 140737488355328 then B c h g sz es else .fail) ∧
        (∀ c sz, K c (.nilS sz) = match c f [.isl 0 sz []] [] with | some (.isl .., [.map _]) => putO d (.tup []) .ret | _ => .fail) ∧ ∀ c v, (∀ h g sz off len, v ≠ .srf h g sz off len) → (∀ sz, v ≠ .nilS sz) → K c v = .fail :=
      ⟨_, fun c => rfl, fun c h g sz off len => by rw [hB]; rfl, fun c sz => rfl, fun c v h1 h2 => by cases v <;> first | rfl | exact absurd rfl (h1 _ _ _ _ _) | exact absurd rfl (h2 _)⟩
    rw [k0] at h
    rcases fac_gOpd x σ with h1 | ⟨v, σ', rs, ws, h1⟩
    · rw [h1] at h; cases h
    rw [(h1 _).1] at h
    have done : (∃ vs os r, cal f vs os = some r ∧ ∀ cal' : Callee, cal' f vs os = some r → (K cal' v).run σ' = some σ1 ∧ (K cal' v).foot σ' = (K cal v).foot σ') → ∃ vs os r, cal f vs os = some r ∧ ∀ cal' : Callee, cal' f vs os = some r → (calliP cal' f d [x]).run σ = some σ1 ∧ (calliP cal' f d [x]).foot σ = (calliP cal f d [x]).foot σ := by
      rintro ⟨vs, os, r, hr, h2⟩
      refine ⟨vs, os, r, hr, fun cal' hc => ?_⟩
      rw [k0, k0, (h1 _).1, (h1 _).2, (h1 _).2, (h2 cal' hc).2]
      exact ⟨(h2 cal' hc).1, rfl⟩
    refine done ?_
    by_cases e1 : ∃ h g sz off len, v = .srf h g sz off len
    · obtain ⟨hm, g, sz, off, len, rfl⟩ := e1
      rw [k1] at h
      rcases fac_gElems hm g sz σ' with h2 | ⟨⟨own, es⟩, σ2, rs2, ws2, h2⟩
      · have := h2 fun x : Bool × List V => if x.1 = true ∧ off = 0 ∧ len = x.2.length ∧ x.2.length ≤ 140737488355328 then B cal hm g sz x.2 else .fail
        rw [this] at h; cases h
      have h3 := fun c => h2 fun x : Bool × List V => if x.1 = true ∧ off = 0 ∧ len = x.2.length ∧ x.2.length ≤ 140737488355328 then B c hm g sz x.2 else .fail
      dsimp only at h3
      rw [(h3 cal).1] at h
      by_cases hc : own = true ∧ off = 0 ∧ len = es.length ∧ es.length ≤ 140737488355328
      · rw [if_pos hc, hB] at h
        dsimp only at h
        split at h
        · rename_i hr
          refine ⟨_, _, _, hr, fun cal' hc' => ?_⟩
          rw [k1, k1, (h3 _).1, (h3 _).2, (h3 _).2, if_pos hc, if_pos hc, hB]
          simp only [hr, hc']
          exact ⟨h, trivial⟩
        · cases h
      · rw [if_neg hc] at h; cases h
    · by_cases e2 : ∃ sz, v = .nilS sz
      · obtain ⟨sz, rfl⟩ := e2
        rw [k2] at h
        split at h
        · rename_i hr
          refine ⟨_, _, _, hr, fun cal' hc' => ?_⟩
          rw [k2, k2]
          simp only [hr, hc']
          exact ⟨h, trivial⟩
        · cases h
      · rw [k3 _ _ (fun h g sz off len e => e1 ⟨_, _, _, _, _, e⟩) (fun sz e => e2 ⟨_, e⟩)] at h; cases h
end Go.Vq
namespace Go.Vq
open Classical in
noncomputable def lim (G : VProg) : Callee := fun f args objs => if h : ∃ r, ∃ n, ∀ m, n ≤ m → call G m f args objs = some r then some (Classical.choose h) else none
open Classical in
noncomputable def limX (G : VProg) (base : Nat) (c : VCode) (σ : St) : Option (Out × St) := if h : ∃ r, ∃ n, ∀ m, n ≤ m → exec G m base c σ = some r then some (Classical.choose h) else none
section
variable {G : VProg} {f : FuncId} {args : List V} {objs : List Obj} {r : V × List Obj} {base : Nat} {σ σ1 : St}
theorem lim_of {n : Nat} (h : ∀ m, n ≤ m → call G m f args objs = some r) : lim G f args objs = some r := by
  have h' : ∃ r, ∃ n, ∀ m, n ≤ m → call G m f args objs = some r := ⟨r, n, h⟩
  unfold lim
  rw [dif_pos h']
  obtain ⟨n', h2⟩ := Classical.choose_spec h'
  have e1 := h2 (max n n') (by omega)
  have e2 := h (max n n') (by omega)
  rw [e2] at e1
  exact e1.symm
theorem lim_ev (h : lim G f args objs = some r) : ∃ n, ∀ m, n ≤ m → call G m f args objs = some r := by
  unfold lim at h
  split at h
  · rename_i h'
    cases h
    exact Classical.choose_spec h'
  · cases h
theorem limX_of {c : VCode} {x : Out × St} {n : Nat} (h : ∀ m, n ≤ m → exec G m base c σ = some x) : limX G base c σ = some x := by
  have h' : ∃ r, ∃ n, ∀ m, n ≤ m → exec G m base c σ = some r := ⟨x, n, h⟩
  unfold limX
  rw [dif_pos h']
  obtain ⟨n', h2⟩ := Classical.choose_spec h'
  have e1 := h2 (max n n') (by omega)
  have e2 := h (max n n') (by omega)
  rw [e2] at e1
  exact e1.symm
theorem limX_ev {c : VCode} {x : Out × St} (h : limX G base c σ = some x) : ∃ n, ∀ m, n ≤ m → exec G m base c σ = some x := by
  unfold limX at h
  split at h
  · rename_i h'
    cases h
    exact Classical.choose_spec h'
  · cases h
theorem op_lim {d : Option Nat} {op : VOp} (h : (opProg (lim G) base d op).run σ = some σ1) : ∃ n, ∀ m, n ≤ m → (opProg (call G m) base d op).run σ = some σ1 ∧ (opProg (call G m) base d op).foot σ = (opProg (lim G) base d op).foot σ := by
  have hcall : ∀ {ap : Bool} {f : FuncId} {first : Nat} {args : List Opd} {caps : List V} {σ : St}, (callP (lim G) ap f first d args caps).run σ = some σ1 → ∃ n, ∀ m, n ≤ m → (callP (call G m) ap f first d args caps).run σ = some σ1 ∧ (callP (call G m) ap f first d args caps).foot σ = (callP (lim G) ap f first d args caps).foot σ := by
    intro ap f first args caps σ h
    obtain ⟨vs, os, r, hr, h2⟩ := callP_once h
    obtain ⟨n, hn⟩ := lim_ev hr
    exact ⟨n, fun m hm => h2 _ (hn m hm)⟩
  cases op with
  | call ap f site args => exact hcall h
  | callm mv f site args =>
    obtain ⟨vs, os, r, hr, h2⟩ := callR_once (fac_moveArgs mv args) h
    obtain ⟨n, hn⟩ := lim_ev hr
    exact ⟨n, fun m hm => h2 _ (hn m hm)⟩
  | calli f site args =>
    obtain ⟨vs, os, r, hr, h2⟩ := calliP_once h
    obtain ⟨n, hn⟩ := lim_ev hr
    exact ⟨n, fun m hm => h2 _ (hn m hm)⟩
  | callv ap x site args =>
    obtain ⟨B, hB⟩ : ∃ B : Callee → V → Prog, ∀ c, opProg c base d (.callv ap x site args) = gOpd x (B c) ∧ (∀ f caps, B c (.func f caps) = callP c ap f (base + site) d args caps) ∧ ∀ v, (∀ f caps, v ≠ .func f caps) → B c v = .fail :=
      ⟨_, fun c => ⟨rfl, fun _ _ => rfl, fun v hv => by cases v <;> first | rfl | exact absurd rfl (hv _ _)⟩⟩
    have key : ∀ (v : V) (σ' : St), (B (lim G) v).run σ' = some σ1 → ∃ n, ∀ m, n ≤ m → (B (call G m) v).run σ' = some σ1 ∧ (B (call G m) v).foot σ' = (B (lim G) v).foot σ' := by
      intro v σ' hv
      by_cases hf : ∃ f caps, v = .func f caps
      · obtain ⟨f, caps, rfl⟩ := hf
        rw [(hB _).2.1] at hv
        obtain ⟨n, hn⟩ := hcall hv
        exact ⟨n, fun m hm => by rw [(hB _).2.1, (hB _).2.1]; exact hn m hm⟩
      · rw [(hB _).2.2 v (fun f caps e => hf ⟨f, caps, e⟩)] at hv; cases hv
    rw [(hB _).1] at h
    cases x with
    | tmp t =>
      obtain ⟨n, hn⟩ := key _ σ h
      refine ⟨n, fun m hm => ?_⟩
      rw [(hB _).1, (hB _).1]
      refine ⟨(hn m hm).1, ?_⟩
      exact congrArg (fun r : List Loc × List Loc => (Loc.slot t :: r.1, r.2)) (hn m hm).2
    | val v =>
      obtain ⟨n, hn⟩ := key v σ h
      refine ⟨n, fun m hm => ?_⟩
      rw [(hB _).1, (hB _).1]
      exact hn m hm
  | eq neg k x y => cases k <;> exact ⟨0, fun m _ => ⟨h, rfl⟩⟩
  | _ => exact ⟨0, fun m _ => ⟨h, rfl⟩⟩
theorem oper_lim {o : VOper} (h : (o.prog (lim G) base).run σ = some σ1) : ∃ n, ∀ m, n ≤ m → (o.prog (call G m) base).run σ = some σ1 ∧ (o.prog (call G m) base).foot σ = (o.prog (lim G) base).foot σ := by
  obtain ⟨dst, op, guard, before⟩ := o
  cases guard with
  | none => exact op_lim h
  | some g =>
    obtain ⟨s, want⟩ := g
    obtain ⟨B, hB⟩ : ∃ B : Callee → V → Prog, ∀ c, VOper.prog c base ⟨dst, op, some (s, want), before⟩ = .getS s (B c) ∧ (∀ b, B c (.bool b) = if b == want then opProg c base dst op else skipP dst) ∧ (B c (.tup []) = skipP dst) ∧ ∀ v, (∀ b, v ≠ .bool b) → v ≠ .tup [] → B c v = .fail :=
      ⟨_, fun c => ⟨rfl, fun _ => rfl, rfl, fun v hv hv2 => by
        cases v <;> first | rfl | exact absurd rfl (hv _) | (rename_i l; cases l <;> first | rfl | exact absurd rfl hv2)⟩⟩
    have key : ∀ v : V, (B (lim G) v).run σ = some σ1 → ∃ n, ∀ m, n ≤ m → (B (call G m) v).run σ = some σ1 ∧ (B (call G m) v).foot σ = (B (lim G) v).foot σ := by
      intro v hv
      by_cases h1 : ∃ b, v = .bool b
      · obtain ⟨b, rfl⟩ := h1
        rw [(hB _).2.1] at hv
        cases hb : b == want
        · simp only [hb, Bool.false_eq_true, if_false] at hv
          exact ⟨0, fun m _ => by rw [(hB _).2.1, (hB _).2.1]; simp only [hb, Bool.false_eq_true, if_false]; exact ⟨hv, trivial⟩⟩
        · simp only [hb, if_true] at hv
          obtain ⟨n, hn⟩ := op_lim hv
          exact ⟨n, fun m hm => by rw [(hB _).2.1, (hB _).2.1]; simp only [hb, if_true]; exact hn m hm⟩
      · by_cases h2 : v = .tup []
        · subst h2
          rw [(hB _).2.2.1] at hv
          exact ⟨0, fun m _ => by rw [(hB _).2.2.1, (hB _).2.2.1]; exact ⟨hv, rfl⟩⟩
        · rw [(hB _).2.2.2 v (fun b e => h1 ⟨b, e⟩) h2] at hv; cases hv
    rw [(hB _).1] at h
    obtain ⟨n, hn⟩ := key _ h
    refine ⟨n, fun m hm => ?_⟩
    rw [(hB _).1, (hB _).1]
    exact ⟨(hn m hm).1, congrArg (fun r : List Loc × List Loc => (Loc.slot s :: r.1, r.2)) (hn m hm).2⟩
theorem runOps_lim : ∀ {ops : List VOper} {σ : St}, runOps (lim G) base ops σ = some σ1 → ∃ n, ∀ m, n ≤ m → runOps (call G m) base ops σ = some σ1
  | [], σ, h => ⟨0, fun _ _ => h⟩
  | o :: os, σ, h => by
    simp only [runOps] at h
    split at h
    · rename_i σ2 h2
      obtain ⟨n, hn⟩ := oper_lim h2
      obtain ⟨n', hn'⟩ := runOps_lim h
      exact ⟨max n n', fun m hm => by simp only [runOps, (hn m (by omega)).1]; exact hn' m (by omega)⟩
    · cases h
theorem runDraw_lim : ∀ {ops : List VOper} {done : List (List Loc × List Loc)} {σ : St}, runDraw (lim G) base ops done σ = some σ1 → ∃ n, ∀ m, n ≤ m → runDraw (call G m) base ops done σ = some σ1
  | [], _, σ, h => ⟨0, fun _ _ => h⟩
  | o :: os, done, σ, h => by
    simp only [runDraw] at h
    split at h
    · cases h
    · rename_i hc
      split at h
      · rename_i σ2 h2
        obtain ⟨n, hn⟩ := oper_lim h2
        obtain ⟨n', hn'⟩ := runDraw_lim h
        exact ⟨max n n', fun m hm => by simp only [runDraw, (hn m (by omega)).1, (hn m (by omega)).2, if_neg hc]; exact hn' m (by omega)⟩
      · cases h
theorem rounds_lim {one : List V → St → Option (Out × St)} {oneM : Nat → List V → St → Option (Out × St)} {next : St → St} (ho : ∀ y σ x, one y σ = some x → ∃ n, ∀ m, n ≤ m → oneM m y σ = some x) :
    ∀ {xs : List (List V)} {σ : St} {x : Out × St}, rounds one next xs σ = some x → ∃ n, ∀ m, n ≤ m → rounds (oneM m) next xs σ = some x
  | [], σ, x, h => ⟨0, fun _ _ => h⟩
  | y :: ys, σ, x, h => by
    simp only [rounds] at h
    split at h
    · rename_i σ2 h2
      obtain ⟨n, hn⟩ := ho _ _ _ h2
      obtain ⟨n', hn'⟩ := rounds_lim ho h
      exact ⟨max n n', fun m hm => by simp only [rounds, hn m (by omega)]; exact hn' m (by omega)⟩
    · rename_i o σ2 hne h2
      obtain ⟨n, hn⟩ := ho _ _ _ h2
      refine ⟨n, fun m hm => ?_⟩
      simp only [rounds, hn m hm]
      cases o with
      | normal => exact absurd rfl hne
      | _ => exact h
    · cases h
theorem step_lim {its : FuncId → Iter} : ∀ {c : VCode} {base : Nat} {σ : St} {x : Out × St}, step (lim G) its (limX G) base c σ = some x → ∃ n, ∀ m, n ≤ m → step (call G m) its (exec G m) base c σ = some x
  | .skip, _, _, _, h => ⟨0, fun _ _ => h⟩
  | .exit _, _, _, _, h => ⟨0, fun _ _ => h⟩
  | .ret, _, _, _, h => ⟨0, fun _ _ => h⟩
  | .bad, _, _, _, h => by cases h
  | .region ops draw, base, σ, x, h => by
    cases draw with
    | true =>
      simp only [step, if_true] at h ⊢
      cases hr : runDraw (lim G) base ops [] σ with
      | none => rw [hr] at h; cases h
      | some σ2 =>
        rw [hr] at h
        obtain ⟨n, hn⟩ := runDraw_lim hr
        exact ⟨n, fun m hm => by rw [hn m hm]; exact h⟩
    | false =>
      simp only [step, Bool.false_eq_true, if_false] at h ⊢
      cases hr : runOps (lim G) base ops σ with
      | none => rw [hr] at h; cases h
      | some σ2 =>
        rw [hr] at h
        obtain ⟨n, hn⟩ := runOps_lim hr
        exact ⟨n, fun m hm => by rw [hn m hm]; exact h⟩
  | .seq a b, base, σ, x, h => by
    simp only [step] at h
    cases ha : step (lim G) its (limX G) base a σ with
    | none => rw [ha] at h; cases h
    | some y =>
      obtain ⟨o, σ2⟩ := y
      obtain ⟨n, hn⟩ := step_lim (c := a) ha
      rw [ha] at h
      cases o with
      | normal =>
        obtain ⟨n', hn'⟩ := step_lim (c := b) h
        exact ⟨max n n', fun m hm => by simp only [step, hn m (by omega)]; exact hn' m (by omega)⟩
      | exit i => exact ⟨n, fun m hm => by simp only [step, hn m hm]; exact h⟩
      | ret => exact ⟨n, fun m hm => by simp only [step, hn m hm]; exact h⟩
  | .cond c a b, base, σ, x, h => by
    simp only [step] at h ⊢
    cases hc : condV c σ with
    | none => rw [hc] at h; cases h
    | some t =>
      rw [hc] at h
      cases t with
      | true => exact step_lim (c := a) h
      | false => exact step_lim (c := b) h
  | .block id keep a, base, σ, x, h => by
    simp only [step] at h
    cases ha : step (lim G) its (limX G) base a σ with
    | none => rw [ha] at h; cases h
    | some y =>
      obtain ⟨o, σ2⟩ := y
      obtain ⟨n, hn⟩ := step_lim (c := a) ha
      rw [ha] at h
      exact ⟨n, fun m hm => by simp only [step, hn m hm]; exact h⟩
  | .loop keep a, base, σ, x, h => by
    simp only [step] at h
    cases ha : step (lim G) its (limX G) base a (rebase? keep base σ) with
    | none => rw [ha] at h; cases h
    | some y =>
      obtain ⟨o, σ2⟩ := y
      obtain ⟨n, hn⟩ := step_lim (c := a) ha
      rw [ha] at h
      cases o with
      | normal =>
        obtain ⟨n', hn'⟩ := limX_ev h
        exact ⟨max n n', fun m hm => by simp only [step, hn m (by omega)]; exact hn' m (by omega)⟩
      | exit i => exact ⟨n, fun m hm => by simp only [step, hn m hm]; exact h⟩
      | ret => exact ⟨n, fun m hm => by simp only [step, hn m hm]; exact h⟩
  | .range x0 ps site keep a b, base, σ, x, h => by
    simp only [step, rangeGo] at h ⊢
    generalize opdV x0 σ = v at h ⊢
    cases v with
    | func g caps =>
      dsimp only at h ⊢
      cases hb : boxesOf caps with
      | none => rw [hb] at h; cases h
      | some bs =>
        rw [hb] at h
        dsimp only at h ⊢
        cases hi : its g bs with
        | none => rw [hi] at h; cases h
        | some y =>
          obtain ⟨ar, xs⟩ := y
          rw [hi] at h
          dsimp only at h ⊢
          split at h
          · rename_i har
            simp only [if_pos har]
            refine rounds_lim (oneM := fun m y σ1 => match step (call G m) its (exec G m) (base + site) a (setPs ps y σ1) with
              | some (.normal, σ2) => step (call G m) its (exec G m) (base + site) b σ2
              | _ => none) (fun y σ1 x h => ?_) h
            cases ha : step (lim G) its (limX G) (base + site) a (setPs ps y σ1) with
            | none => rw [ha] at h; cases h
            | some z =>
              obtain ⟨o, σ2⟩ := z
              obtain ⟨n, hn⟩ := step_lim (c := a) ha
              rw [ha] at h
              cases o with
              | normal =>
                obtain ⟨n', hn'⟩ := step_lim (c := b) h
                exact ⟨max n n', fun m hm => by simp only [hn m (by omega)]; exact hn' m (by omega)⟩
              | exit i => cases h
              | ret => cases h
          · cases h
    | _ => cases h
theorem limX_step {c : VCode} {x : Out × St} (h : step (lim G) (itersOf G) (limX G) base c σ = some x) : limX G base c σ = some x := by
  obtain ⟨n, hn⟩ := step_lim h
  refine limX_of (n := n + 1) fun m hm => ?_
  obtain ⟨k, rfl⟩ : ∃ k, m = k + 1 := ⟨m - 1, by omega⟩
  exact hn k (by omega)
theorem lim_code {fn : VFunc} {o : Out} {res : V × List Obj} (hf : G f = some (.code fn)) (hl : args.length = fn.nparams ∧ fn.nparams ≤ fn.ntmps) (h : step (lim G) (itersOf G) (limX G) objs.length fn.body (start fn args objs) = some (o, σ)) (ho : o = .normal ∨ o = .ret)
    (hr : finish fn objs.length σ = some res) : lim G f args objs = some res := by
  obtain ⟨n, hn⟩ := limX_ev (limX_step h)
  exact lim_of (n := n) fun m hm => call_code hf hl (hn m hm) ho hr
theorem lim_prim {run : List V → List Obj → Option (V × List Obj)} (hf : G f = some (.prim run)) (h : run args objs = some r) : lim G f args objs = some r := lim_of (n := 0) fun m _ => by rw [call_prim hf]; exact h
end
end Go.Vq
