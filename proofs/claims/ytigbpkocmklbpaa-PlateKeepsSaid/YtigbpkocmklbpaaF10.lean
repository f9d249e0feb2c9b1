/- A machine of values and its tie to the model, and runs of it: part 10 of 14 (no law of Go is stated here). -/
import Derived.Test.YtigbpkocmklbpaaF9
import Derived.KernelRfl
set_option linter.unusedVariables false
set_option linter.unusedSimpArgs false
set_option linter.unusedSectionVars false
namespace Go.Vq
theorem z1 (σ : St) (s : Nat) (v : V) : σ.setS s v = { σ with slots := σ.slots.set s v } := rfl
theorem z2 (σ : St) (s : Nat) : σ.slot s = σ.slots.getD s (.gone 0) := rfl
theorem z3 (σ : St) (o : Nat) (x : Option Obj) : σ.setO o x = { σ with objs := σ.objs.set o x } := rfl
theorem z4 (σ : St) (o : Nat) : σ.obj o = σ.objs.getD o none := rfl
section
variable {α : Type}
theorem z5 (a : α) (l : List α) (n : Nat) (x : α) : (a :: l).set (n + 1) x = a :: l.set n x := rfl
theorem z6 (a : α) (l : List α) (x : α) : (a :: l).set 0 x = x :: l := rfl
theorem z7 (a : α) (l : List α) (n : Nat) (d : α) : (a :: l).getD (n + 1) d = l.getD n d := rfl
theorem z8 (a : α) (l : List α) (d : α) : (a :: l).getD 0 d = a := rfl
theorem z9 (a : α) (l : List α) (d : α) : (a :: l).headD d = a := rfl
theorem z10 (a : α) (l : List α) : (a :: l).length = l.length + 1 := rfl
theorem z11 : ([] : List α).length = 0 := rfl
theorem z12 (a : α) (l : List α) (n : Nat) : (a :: l).take (n + 1) = a :: l.take n := rfl
theorem z13 (l : List α) : l.take 0 = [] := by cases l <;> rfl
theorem z14 (a : α) (l : List α) (n : Nat) : (a :: l).drop (n + 1) = l.drop n := rfl
theorem z15 (l : List α) : l.drop 0 = l := by cases l <;> rfl
theorem z16 (a : α) (l r : List α) : (a :: l) ++ r = a :: (l ++ r) := rfl
theorem z17 (l : List α) : [] ++ l = l := rfl
theorem z18 (l : List α) : l ++ [] = l := List.append_nil l
end
end Go.Vq
namespace Go.Vq
def byN (l : List Nat) : List V := l.map fun (x : Nat) => V.int .u8 (x : Int)
section
variable {cal : Callee} {its : FuncId → Iter} {again : Nat → VCode → St → Option (Out × St)} {base : Nat} {σ σ1 : St} {Q : Out → St → Prop}
def W (cal : Callee) (its : FuncId → Iter) (again : Nat → VCode → St → Option (Out × St)) (base : Nat) (c : VCode) (σ : St) (Q : Out → St → Prop) : Prop := ∃ o s, step cal its again base c σ = some (o, s) ∧ Q o s
def WO (cal : Callee) (base : Nat) (ops : List VOper) (σ : St) (Q : St → Prop) : Prop := ∃ s, runOps cal base ops σ = some s ∧ Q s
def WD (cal : Callee) (base : Nat) (ops : List VOper) (done : List (List Loc × List Loc)) (σ : St) (Q : St → Prop) : Prop := ∃ s, runDraw cal base ops done σ = some s ∧ Q s
def Qseq (cal : Callee) (its : FuncId → Iter) (again : Nat → VCode → St → Option (Out × St)) (base : Nat) (b : VCode) (Q : Out → St → Prop) : Out → St → Prop
  | .normal, s => W cal its again base b s Q
  | o, s => Q o s
def Qblk (base id : Nat) (keep : Option (List Nat)) (Q : Out → St → Prop) : Out → St → Prop
  | .exit id', s => if id' = id then Q .normal (rebase? keep base s) else Q (.exit id') s
  | .normal, s => Q .normal (rebase? keep base s)
  | .ret, s => Q .ret s
theorem W_skip (h : Q .normal σ) : W cal its again base .skip σ Q := ⟨_, _, rfl, h⟩
theorem W_ret (h : Q .ret σ) : W cal its again base .ret σ Q := ⟨_, _, rfl, h⟩
theorem W_exit {id : Nat} (h : Q (.exit id) σ) : W cal its again base (.exit id) σ Q := ⟨_, _, rfl, h⟩
theorem W_seq {a b : VCode} (h : W cal its again base a σ (Qseq cal its again base b Q)) : W cal its again base (.seq a b) σ Q := by
  obtain ⟨o, s, h1, h2⟩ := h
  cases o with
  | normal => obtain ⟨o', s', h3, h4⟩ := h2; exact ⟨o', s', step_seq h1 h3, h4⟩
  | _ => exact ⟨_, _, step_seq_out h1 (by intro e; cases e), h2⟩
theorem W_cond {c : Opd} {a b : VCode} {t : Bool} (hc : condV c σ = some t) (h1 : t = true → W cal its again base a σ Q) (h2 : t = false → W cal its again base b σ Q) : W cal its again base (.cond c a b) σ Q := by
  cases t with
  | true => obtain ⟨o, s, h3, h4⟩ := h1 rfl; exact ⟨o, s, step_true hc h3, h4⟩
  | false => obtain ⟨o, s, h3, h4⟩ := h2 rfl; exact ⟨o, s, step_false hc h3, h4⟩
theorem W_condD {c : Opd} {a b : VCode} {p : Prop} [Decidable p] (hc : condV c σ = some (decide p)) (h1 : p → W cal its again base a σ Q) (h2 : ¬p → W cal its again base b σ Q) : W cal its again base (.cond c a b) σ Q :=
  W_cond hc (fun h => h1 (of_decide_eq_true h)) (fun h => h2 (of_decide_eq_false h))
theorem W_condT {c : Opd} {a b : VCode} (hc : condV c σ = some true) (h : W cal its again base a σ Q) : W cal its again base (.cond c a b) σ Q := W_cond hc (fun _ => h) (fun e => by cases e)
theorem W_condF {c : Opd} {a b : VCode} (hc : condV c σ = some false) (h : W cal its again base b σ Q) : W cal its again base (.cond c a b) σ Q := W_cond hc (fun e => by cases e) (fun _ => h)
theorem W_region {ops : List VOper} (h : WO cal base ops σ (Q .normal)) : W cal its again base (.region ops false) σ Q := by
  obtain ⟨s, h1, h2⟩ := h; exact ⟨_, s, step_region h1, h2⟩
theorem W_draw {ops : List VOper} (h : WD cal base ops [] σ (Q .normal)) : W cal its again base (.region ops true) σ Q := by
  obtain ⟨s, h1, h2⟩ := h; exact ⟨_, s, step_draw h1, h2⟩
theorem WO_nil {Q : St → Prop} (h : Q σ) : WO cal base [] σ Q := ⟨_, rfl, h⟩
theorem WO_cons {Q : St → Prop} {o : VOper} {os : List VOper} (h : (o.prog cal base).run σ = some σ1) (h2 : WO cal base os σ1 Q) : WO cal base (o :: os) σ Q := by
  obtain ⟨s, h3, h4⟩ := h2; exact ⟨s, runOps_cons h h3, h4⟩
theorem WD_nil {Q : St → Prop} {done : List (List Loc × List Loc)} (h : Q σ) : WD cal base [] done σ Q := ⟨_, rfl, h⟩
theorem WD_cons {Q : St → Prop} {o : VOper} {os : List VOper} {done : List (List Loc × List Loc)} {f : List Loc × List Loc} (hf : (o.prog cal base).foot σ = f) (hc : clashes o.before f 0 done = false)
    (h : (o.prog cal base).run σ = some σ1) (h2 : WD cal base os (done ++ [f]) σ1 Q) : WD cal base (o :: os) done σ Q := by
  obtain ⟨s, h3, h4⟩ := h2; exact ⟨s, runDraw_cons hf hc h h3, h4⟩
theorem W_block {id : Nat} {keep : Option (List Nat)} {a : VCode} (h : W cal its again base a σ (Qblk base id keep Q)) : W cal its again base (.block id keep a) σ Q := by
  obtain ⟨o, s, h1, h2⟩ := h
  cases o with
  | normal => exact ⟨_, _, step_block h1 rfl, h2⟩
  | ret => exact ⟨_, _, step_block_ret h1, h2⟩
  | exit i =>
    simp only [Qblk] at h2
    split at h2
    · rename_i e; subst e; exact ⟨_, _, step_block_exit h1 rfl, h2⟩
    · rename_i e; exact ⟨_, _, step_block_out h1 e, h2⟩
theorem Qs_n {b : VCode} (h : W cal its again base b σ Q) : Qseq cal its again base b Q .normal σ := h
theorem Qs_r {b : VCode} (h : Q .ret σ) : Qseq cal its again base b Q .ret σ := h
theorem Qs_e {b : VCode} {id : Nat} (h : Q (.exit id) σ) : Qseq cal its again base b Q (.exit id) σ := h
theorem Qb_n0 {id : Nat} (h : Q .normal σ) : Qblk base id none Q .normal σ := h
theorem Qb_x0 {id : Nat} (h : Q .normal σ) : Qblk base id none Q (.exit id) σ := by simp only [Qblk, if_true]; exact h
theorem Qb_n {id : Nat} {keep : Option (List Nat)} (hk : rebase? keep base σ = σ1) (h : Q .normal σ1) : Qblk base id keep Q .normal σ := by simp only [Qblk, hk]; exact h
theorem Qb_x {id : Nat} {keep : Option (List Nat)} (hk : rebase? keep base σ = σ1) (h : Q .normal σ1) : Qblk base id keep Q (.exit id) σ := by simp only [Qblk, if_true, hk]; exact h
theorem Qb_r {id : Nat} {keep : Option (List Nat)} (h : Q .ret σ) : Qblk base id keep Q .ret σ := h
theorem Qb_ne {id id' : Nat} {keep : Option (List Nat)} (hne : id' ≠ id) (h : Q (.exit id') σ) : Qblk base id keep Q (.exit id') σ := by simp only [Qblk, if_neg hne]; exact h
end
abbrev Z8 (n : Nat) : List V := List.replicate n (.int .u8 0)
def Qend (fn : VFunc) (base : Nat) (r : Option (V × List Obj)) : Out → St → Prop := fun o s => (o = .normal ∨ o = .ret) ∧ finish fn base s = r
theorem Qe_r {fn : VFunc} {base : Nat} {r : Option (V × List Obj)} {σ : St} (h : finish fn base σ = r) : Qend fn base r .ret σ := ⟨.inr rfl, h⟩
theorem Qe_n {fn : VFunc} {base : Nat} {r : Option (V × List Obj)} {σ : St} (h : finish fn base σ = r) : Qend fn base r .normal σ := ⟨.inl rfl, h⟩
def Qrnd {α : Type} (keep : Option (List Nat)) (base : Nat) (S : α → St) (J : α → Prop) (Q : Out → St → Prop) : Out → St → Prop := fun o s => (o = .normal ∧ ∃ b, rebase? keep base s = S b ∧ J b) ∨ (o ≠ .normal ∧ Q o s)
theorem Qr_n {α : Type} {keep : Option (List Nat)} {base : Nat} {S : α → St} {J : α → Prop} {Q : Out → St → Prop} {σ : St} (b : α) (h : rebase? keep base σ = S b) (hj : J b) : Qrnd keep base S J Q .normal σ := .inl ⟨rfl, b, h, hj⟩
theorem Qr_x {α : Type} {keep : Option (List Nat)} {base : Nat} {S : α → St} {J : α → Prop} {Q : Out → St → Prop} {σ : St} {id : Nat} (h : Q (.exit id) σ) : Qrnd keep base S J Q (.exit id) σ := .inr ⟨(by intro e; cases e), h⟩
end Go.Vq
namespace Go.Vq
section
theorem byN_len (l : List Nat) : (byN l).length = l.length := by simp [byN]
theorem byN_cons (x : Nat) (l : List Nat) : byN (x :: l) = .int .u8 (x : Int) :: byN l := rfl
theorem byN_nil : byN [] = [] := rfl
theorem byN_app (a b : List Nat) : byN (a ++ b) = byN a ++ byN b := by simp [byN]
theorem byN_take (l : List Nat) (n : Nat) : (byN l).take n = byN (l.take n) := by simp [byN, List.map_take]
theorem byN_drop (l : List Nat) (n : Nat) : (byN l).drop n = byN (l.drop n) := by simp [byN, List.map_drop]
theorem byN_rep (n : Nat) : Z8 n = byN (List.replicate n 0) := by simp [byN]
theorem drop_by {c : List Nat} {n : Nat} (h : c.length = n) : (byN c).drop n = [] := List.drop_of_length_le (by rw [byN_len]; omega)
theorem exN {c : List Nat} {n : Nat} (h : c.length = n) : ∃ g : Nat → Nat, c = (List.range n).map g := by
  refine ⟨fun i => c.getD i 0, List.ext_getElem (by simp [h]) fun i h1 h2 => ?_⟩
  simp [List.getD_eq_getElem?_getD, h1]
theorem take_mapl {α : Type} (f : α → V) (l : List α) : (l.map f).take l.length = l.map f := List.take_of_length_le (by simp)
theorem settle_by (mk : Nat → Option Home) (l : List Nat) : ∀ (i : Nat) (k : List V → Prog), settle mk i (byN l) k = k (byN l) := by
  induction l with
  | nil => intro i k; rfl
  | cons x l ih => intro i k; simp only [byN_cons, settle, settle1, ih]
theorem keeps_by (mk : Nat → Option Home) (l : List Nat) : ∀ (i : Nat) (k : List V → Prog), keeps mk i (byN l) k = k (byN l) := by
  induction l with
  | nil => intro i k; rfl
  | cons x l ih => intro i k; simp only [byN_cons, keeps, keep1, ih]
theorem borrows_by (mk : Nat → Home) (l : List Nat) : ∀ (i : Nat), borrows mk i (byN l) = byN l := by
  induction l with
  | nil => intro i; rfl
  | cons x l ih => intro i; simp only [byN_cons, borrows, borrow1, ih]
theorem obj1_by (l : List Nat) : (byN l).map obj1 = byN l := by induction l with | nil => rfl | cons x l ih => simp only [byN_cons, List.map_cons, obj1, ih]
theorem freeze1_by (l : List Nat) : (byN l).map freeze1 = byN l := by induction l with | nil => rfl | cons x l ih => simp only [byN_cons, List.map_cons, freeze1, ih]
theorem regens_by : ∀ (a b : List Nat), a.length = b.length → regens (byN a) (byN b) = some (byN b)
  | [], [], _ => rfl
  | x :: a, y :: b, h => by simp only [byN_cons, regens, regen1, V.nextg, if_true, regens_by a b (by simpa using h)]; rfl
theorem regens_by0 : ∀ (b : List Nat), regens [] (byN b) = some (byN b)
  | [] => rfl
  | y :: b => by simp only [byN_cons, regens, regen1, V.nextg, if_true, regens_by0 b]; rfl
theorem inObj_by (l : List Nat) : (byN l).all V.inObj = true := by simp [byN, V.inObj]
theorem inElem_by (l : List Nat) : (byN l).all V.inElem = true := by simp [byN, V.inElem]
theorem plain_by (l : List Nat) : (byN l).all V.plain = true := by simp [byN, V.plain]
theorem here_by (l : List Nat) : V.here (.agg (byN l)) = true := by simp [V.here, byN]
theorem here_int (k : IntKind) (n : Int) (l : List V) : V.here (.agg (.int k n :: l)) = V.here (.agg l) := rfl
theorem here_bool (b : Bool) (l : List V) : V.here (.agg (.bool b :: l)) = V.here (.agg l) := rfl
theorem here_str (b : List UInt8) (l : List V) : V.here (.agg (.str b :: l)) = V.here (.agg l) := rfl
theorem here_isl (g sz : Nat) (es l : List V) : V.here (.agg (.isl g sz es :: l)) = V.here (.agg l) := rfl
theorem here_xsl (g sz : Nat) (es l : List V) : V.here (.agg (.xsl g sz es :: l)) = V.here (.agg l) := rfl
theorem here_intL (k : IntKind) (n : Int) : V.here (.int k n) = true := rfl
theorem here_boolL (b : Bool) : V.here (.bool b) = true := rfl
theorem here_strL (b : List UInt8) : V.here (.str b) = true := rfl
theorem here_islL (g sz : Nat) (es : List V) : V.here (.isl g sz es) = true := rfl
theorem here_xslL (g sz : Nat) (es : List V) : V.here (.xsl g sz es) = true := rfl
theorem here_fslL (g sz : Nat) (es : List V) : V.here (.fsl g sz es) = true := rfl
theorem here_ptrL (r : Ref) : V.here (.ptr r) = true := rfl
theorem here_nilP : V.here .nil = true := rfl
theorem here_nil : V.here (.agg []) = true := rfl
theorem hasX_by (l : List Nat) : V.hasX (.agg (byN l)) = false := by simp [V.hasX, V.leaves, byN]
theorem hasX_int (k : IntKind) (n : Int) (l : List V) : V.hasX (.agg (.int k n :: l)) = V.hasX (.agg l) := rfl
theorem hasX_bool (b : Bool) (l : List V) : V.hasX (.agg (.bool b :: l)) = V.hasX (.agg l) := rfl
theorem hasX_str (b : List UInt8) (l : List V) : V.hasX (.agg (.str b :: l)) = V.hasX (.agg l) := rfl
theorem hasX_isl (g sz : Nat) (es l : List V) : V.hasX (.agg (.isl g sz es :: l)) = V.hasX (.agg l) := rfl
theorem hasX_nil : V.hasX (.agg []) = false := rfl
theorem regens_nn : regens [] [] = some [] := rfl
theorem regens_c (o n : V) (os ns : List V) : regens (o :: os) (n :: ns) = (regen1 o n).bind fun v => (regens os ns).map (v :: ·) := by
  simp only [regens]; cases regen1 o n <;> cases regens os ns <;> rfl
theorem regens_0c (n : V) (ns : List V) : regens [] (n :: ns) = (regen1 (.gone 0) n).bind fun v => (regens [] ns).map (v :: ·) := by
  simp only [regens]; cases regen1 (.gone 0) n <;> cases regens [] ns <;> rfl
theorem regens_g0 (b : List Nat) : regens [.gone 0] (byN b) = some (byN b) := by
  cases b with
  | nil => rfl
  | cons x b => rw [byN_cons, regens_c, regens_by0]; rfl
theorem regens_bb {a b : List Nat} (h : a.length = b.length) : regens (byN a) (byN b) = some (byN b) := regens_by a b h
theorem regens_zb {c : List Nat} {n : Nat} (h : c.length = n) : regens (Z8 n) (byN c) = some (byN c) := by rw [byN_rep]; exact regens_by _ _ (by simp [h])
theorem take_by {c : List Nat} {n : Nat} (h : c.length = n) : (byN c).take n = byN c := by rw [byN_take, List.take_of_length_le (by omega)]
end
end Go.Vq
namespace Go.Vq
def PR (p : Prog) (σ : St) (rs ws : List Loc) (τ : St) : Prop := p.run σ = some τ ∧ p.foot σ = (rs, ws)
section
variable {σ τ : St} {rs ws : List Loc} {k : V → Prog} {p q : Prog} {t d : Nat} {v : V}
theorem PR_ret : PR .ret σ [] [] σ := ⟨rfl, rfl⟩
theorem PR_if {c : Prop} {_ : Decidable c} (hc : c) (h : PR p σ rs ws τ) : PR (if c then p else q) σ rs ws τ := by rw [if_pos hc]; exact h
theorem PR_else {c : Prop} {_ : Decidable c} (hc : ¬c) (h : PR q σ rs ws τ) : PR (if c then p else q) σ rs ws τ := by rw [if_neg hc]; exact h
theorem PR_ifT {b : Bool} {_ : Decidable (b = true)} (hb : b = true) (h : PR p σ rs ws τ) : PR (if b = true then p else q) σ rs ws τ := PR_if hb h
theorem PR_ifF {b : Bool} {_ : Decidable (b = true)} (hb : b = false) (h : PR q σ rs ws τ) : PR (if b = true then p else q) σ rs ws τ := PR_else (by rw [hb]; decide) h
theorem PR_ifN {a b : Option Nat} {_ : Decidable (a ≠ b)} (hb : a = b) (h : PR q σ rs ws τ) : PR (if a ≠ b then p else q) σ rs ws τ := PR_else (fun h => h hb) h
theorem PR_getS (h : σ.slots[t]? = some v) (h2 : PR (k v) σ rs ws τ) : PR (.getS t k) σ (.slot t :: rs) ws τ := by
  have e : σ.slot t = v := by unfold St.slot; rw [List.getD_eq_getElem?_getD, h]; rfl
  exact ⟨by simp only [Prog.run, e]; exact h2.1, by simp only [Prog.foot, e, h2.2]⟩
theorem PR_setS (h2 : PR p (σ.setS d v) rs ws τ) : PR (.setS d v p) σ rs (.slot d :: ws) τ := ⟨by simp only [Prog.run]; exact h2.1, by simp only [Prog.foot, h2.2]⟩
theorem PR_getO {o : Nat} {x : Option Obj} {k : Option Obj → Prog} (h : σ.objs[o]? = some x) (h2 : PR (k x) σ rs ws τ) : PR (.getO o k) σ (.obj o :: rs) ws τ := by
  have e : σ.obj o = x := by unfold St.obj; rw [List.getD_eq_getElem?_getD, h]; rfl
  exact ⟨by simp only [Prog.run, e]; exact h2.1, by simp only [Prog.foot, e, h2.2]⟩
theorem PR_setO {o : Nat} {x : Option Obj} (h : o < σ.objs.length) (h2 : PR p (σ.setO o x) rs ws τ) : PR (.setO o x p) σ rs (.obj o :: ws) τ := ⟨by simp only [Prog.run, if_pos h]; exact h2.1, by simp only [Prog.foot, h2.2]⟩
theorem PR_opdT (h : σ.slots[t]? = some v) (h2 : PR (k v) σ rs ws τ) : PR (gOpd (.tmp t) k) σ (.slot t :: rs) ws τ := PR_getS h h2
theorem PR_opdV (h2 : PR (k v) σ rs ws τ) : PR (gOpd (.val v) k) σ rs ws τ := h2
theorem PR_intT {k : Int → Prog} {kd : IntKind} {n : Int} (h : σ.slots[t]? = some (.int kd n)) (h2 : PR (k n) σ rs ws τ) : PR (gInt (.tmp t) k) σ (.slot t :: rs) ws τ := PR_getS h h2
theorem PR_intV {k : Int → Prog} {kd : IntKind} {n : Int} (h2 : PR (k n) σ rs ws τ) : PR (gInt (.val (.int kd n)) k) σ rs ws τ := h2
theorem PR_boolT {k : Bool → Prog} {b : Bool} (h : σ.slots[t]? = some (.bool b)) (h2 : PR (k b) σ rs ws τ) : PR (gBool (.tmp t) k) σ (.slot t :: rs) ws τ := PR_getS h h2
theorem PR_boolV {k : Bool → Prog} {b : Bool} (h2 : PR (k b) σ rs ws τ) : PR (gBool (.val (.bool b)) k) σ rs ws τ := h2
theorem PR_optV {o : Option V} (h : o = some v) (h2 : PR (k v) σ rs ws τ) : PR (optV o k) σ rs ws τ := by subst h; exact h2
theorem PR_put {old : V} {ls : List V} {u : V} (h : σ.slots[d]? = some old) (hp : regens old.leaves v.leaves = some ls) (hu : v.withLeaves ls = u) (h2 : PR p (σ.setS d u) rs ws τ) : PR (put d v p) σ (.slot d :: rs) (.slot d :: ws) τ := by
  subst hu
  refine PR_getS (k := fun old => match regens old.leaves v.leaves with | some ls => .setS d (v.withLeaves ls) p | none => .fail) h ?_
  rw [hp]
  exact PR_setS h2
theorem PR_putO {old : V} {ls : List V} {u : V} (h : σ.slots[d]? = some old) (hp : regens old.leaves v.leaves = some ls) (hu : v.withLeaves ls = u) (h2 : PR p (σ.setS d u) rs ws τ) : PR (putO (some d) v p) σ (.slot d :: rs) (.slot d :: ws) τ := PR_put h hp hu h2
theorem PR_putN (h2 : PR p σ rs ws τ) : PR (putO none v p) σ rs ws τ := h2
theorem PR_drainV (h2 : PR p σ rs ws τ) : PR (drain (.val v) p) σ rs ws τ := h2
theorem PR_drain0 (h : σ.slots[t]? = some v) (hx : v.hasX = false) (h2 : PR p σ rs ws τ) : PR (drain (.tmp t) p) σ (.slot t :: rs) ws τ := by
  refine PR_getS (k := fun v => if v.hasX then .setS t v.wipe p else p) h ?_
  rw [hx]; exact h2
theorem PR_drain1 {u : V} (h : σ.slots[t]? = some v) (hx : v.hasX = true) (hu : v.wipe = u) (h2 : PR p (σ.setS t u) rs ws τ) : PR (drain (.tmp t) p) σ (.slot t :: rs) (.slot t :: ws) τ := by
  subst hu
  refine PR_getS (k := fun v => if v.hasX then .setS t v.wipe p else p) h ?_
  rw [hx]; exact PR_setS h2
def elemsOf (g sz : Nat) : V → Option (Bool × List V)
  | .xsl g' sz' es => if g' = g ∧ sz' = sz then some (true, es) else none
  | .isl g' sz' es => if g' = g ∧ sz' = sz then some (false, es) else none
  | .fsl g' sz' es => if g' = g ∧ sz' = sz then some (false, es) else none
  | _ => none
def kEl (g sz : Nat) (k : Bool → List V → Prog) : V → Prog
  | .xsl g' sz' es => if g' = g ∧ sz' = sz then k true es else .fail
  | .isl g' sz' es => if g' = g ∧ sz' = sz then k false es else .fail
  | .fsl g' sz' es => if g' = g ∧ sz' = sz then k false es else .fail
  | _ => .fail
theorem gElems_k (h : Home) (g sz : Nat) (k : Bool → List V → Prog) : gElems h g sz k = gHome h (kEl g sz k) := by
  unfold gElems
  congr 1
theorem elemsOf_prog {g sz : Nat} {hv : V} {own : Bool} {es : List V} {k : Bool → List V → Prog} (h : elemsOf g sz hv = some (own, es)) : kEl g sz k hv = k own es := by
  cases hv <;> simp only [elemsOf] at h
  case isl => split at h; · rename_i hc; cases h; simp only [kEl, hc, and_self, if_true]
              · cases h
  case xsl => split at h; · rename_i hc; cases h; simp only [kEl, hc, and_self, if_true]
              · cases h
  case fsl => split at h; · rename_i hc; cases h; simp only [kEl, hc, and_self, if_true]
              · cases h
  all_goals cases h
theorem PR_homeS {off s : Nat} {x : V} (h : σ.slots[s]? = some v) (hl : v.leaves[off]? = some x) (h2 : PR (k x) σ rs ws τ) : PR (gHome (.slot s off) k) σ (.slot s :: rs) ws τ := by
  refine PR_getS (k := fun v => match v.leaves[off]? with | some x => k x | none => .fail) h ?_
  rw [hl]; exact h2
theorem PR_homeO {off o : Nat} {x : V} {cs : List V} (h : σ.objs[o]? = some (some (.cells cs))) (hl : cs[off]? = some x) (h2 : PR (k x) σ rs ws τ) : PR (gHome (.obj o off) k) σ (.obj o :: rs) ws τ := by
  refine PR_getO (k := fun | some (.cells cs) => (match cs[off]? with | some x => k x | none => .fail) | _ => .fail) h ?_
  simp only [hl]; exact h2
theorem PR_shomeS {off s : Nat} {x : V} {u : V} (h : σ.slots[s]? = some v) (hl : off < v.leaves.length) (hu : v.withLeaves (v.leaves.set off x) = u) (h2 : PR p (σ.setS s u) rs ws τ) : PR (sHome (.slot s off) x p) σ (.slot s :: rs) (.slot s :: ws) τ := by
  subst hu
  refine PR_getS (k := fun v => if off < v.leaves.length then .setS s (v.withLeaves (v.leaves.set off x)) p else .fail) h ?_
  rw [if_pos hl]; exact PR_setS h2
theorem PR_shomeO {off o : Nat} {x : V} {cs cs' : List V} (h : σ.objs[o]? = some (some (.cells cs))) (hl : off < cs.length) (ho : o < σ.objs.length) (hs : cs.set off x = cs') (h2 : PR p (σ.setO o (some (.cells cs'))) rs ws τ) : PR (sHome (.obj o off) x p) σ (.obj o :: rs) (.obj o :: ws) τ := by
  subst hs
  refine PR_getO (k := fun | some (.cells cs) => if off < cs.length then .setO o (some (.cells (cs.set off x))) p else .fail | _ => .fail) h ?_
  simp only [if_pos hl]; exact PR_setO ho h2
theorem PR_elemsS {g sz off s : Nat} {hv : V} {own : Bool} {es : List V} {k : Bool → List V → Prog} (h : σ.slots[s]? = some v) (hl : v.leaves[off]? = some hv) (he : elemsOf g sz hv = some (own, es)) (h2 : PR (k own es) σ rs ws τ) : PR (gElems (.slot s off) g sz k) σ (.slot s :: rs) ws τ :=
  by rw [gElems_k]; exact PR_homeS h hl (by rw [elemsOf_prog he]; exact h2)
theorem PR_elemsO {g sz off o : Nat} {hv : V} {own : Bool} {cs es : List V} {k : Bool → List V → Prog} (h : σ.objs[o]? = some (some (.cells cs))) (hl : cs[off]? = some hv) (he : elemsOf g sz hv = some (own, es)) (h2 : PR (k own es) σ rs ws τ) : PR (gElems (.obj o off) g sz k) σ (.obj o :: rs) ws τ :=
  by rw [gElems_k]; exact PR_homeO h hl (by rw [elemsOf_prog he]; exact h2)
theorem PR_cellsO {o off n : Nat} {cs vs ws' : List V} {k : List V → Prog} (h : σ.objs[o]? = some (some (.cells cs))) (hl : off + n ≤ cs.length) (hv : (cs.drop off).take n = vs) (hb : borrows (fun i => .obj o (off + i)) 0 vs = ws') (h2 : PR (k ws') σ rs ws τ) : PR (gCells (.obj o off) n k) σ (.obj o :: rs) ws τ := by
  subst hv hb
  refine PR_getO (k := fun | some (.cells cs) => if off + n ≤ cs.length then k (borrows (fun i => .obj o (off + i)) 0 ((cs.drop off).take n)) else .fail | _ => .fail) h ?_
  simp only [if_pos hl]; exact h2
theorem PR_cellsE {r0 : List Loc} {h0 : Home} {g sz i off n : Nat} {vs : List V} {own : Bool} {es : List V} {e : V} {k : List V → Prog} (ha : ∀ k', PR (k' own es) σ rs ws τ → PR (gElems h0 g sz k') σ (r0 ++ rs) ws τ) (he : es[i]? = some e) (hl : off + n ≤ e.cells.length) (hv : (e.cells.drop off).take n = vs)
    (h2 : PR (k vs) σ rs ws τ) : PR (gCells (.elem h0 g sz i off) n k) σ (r0 ++ rs) ws τ := by
  subst hv
  simp only [gCells]
  refine ha _ ?_
  simp only [he, if_pos hl]; exact h2
theorem PR_scellsO {o off : Nat} {cs vs old ns cs' : List V} (h : σ.objs[o]? = some (some (.cells cs))) (hl : off + vs.length ≤ cs.length) (hv : (cs.drop off).take vs.length = old) (hr : regens old vs = some ns) (ho : o < σ.objs.length) (hs : splice cs off ns = cs') (h2 : PR p (σ.setO o (some (.cells cs'))) rs ws τ) : PR (sCells (.obj o off) vs p) σ (.obj o :: rs) (.obj o :: ws) τ := by
  subst hv hs
  simp only [sCells]
  refine PR_getO h ?_
  simp only [if_pos hl, hr]; exact PR_setO ho h2
theorem PR_scellsE {r0 : List Loc} {h0 : Home} {g sz i off : Nat} {vs : List V} {es es' : List V} {e : V} (ha : ∀ k', PR (k' true es) σ rs ws τ → PR (gElems h0 g sz k') σ (r0 ++ rs) ws τ) (he : es[i]? = some e) (hl : off + vs.length ≤ e.cells.length) (hs : es.set i (e.setCells off vs) = es')
    (h2 : PR (sHome h0 (.xsl g sz es') p) σ rs ws τ) : PR (sCells (.elem h0 g sz i off) vs p) σ (r0 ++ rs) ws τ := by
  subst hs
  simp only [sCells]
  refine ha _ ?_
  simp only [he, if_pos hl]; exact h2
theorem PR_aelS {g sz off s : Nat} {hv : V} {own : Bool} {es : List V} (h : σ.slots[s]? = some v) (hl : v.leaves[off]? = some hv) (he : elemsOf g sz hv = some (own, es)) : ∀ (k' : Bool → List V → Prog), PR (k' own es) σ rs ws τ → PR (gElems (.slot s off) g sz k') σ ([.slot s] ++ rs) ws τ := fun _ h2 => PR_elemsS h hl he h2
theorem PR_aelO {g sz off o : Nat} {hv : V} {own : Bool} {cs es : List V} (h : σ.objs[o]? = some (some (.cells cs))) (hl : cs[off]? = some hv) (he : elemsOf g sz hv = some (own, es)) : ∀ (k' : Bool → List V → Prog), PR (k' own es) σ rs ws τ → PR (gElems (.obj o off) g sz k') σ ([.obj o] ++ rs) ws τ := fun _ h2 => PR_elemsO h hl he h2
def viewOf : V → Option (Nat × List V)
  | .isl _ sz es | .xsl _ sz es | .fsl _ sz es | .csl sz es => some (sz, es)
  | .nilS sz => some (sz, [])
  | _ => none
theorem PR_view {sz : Nat} {es : List V} {k : Nat → List V → Prog} (h : viewOf v = some (sz, es)) (h2 : PR (k sz es) σ rs ws τ) : PR (gView v k) σ rs ws τ := by
  cases v <;> simp only [viewOf] at h <;> first | (cases h; done) | (cases h; exact h2)
theorem PR_viewR {r0 : List Loc} {h0 : Home} {g sz off len : Nat} {own : Bool} {es vs : List V} {k : Nat → List V → Prog} (ha : ∀ k', PR (k' own es) σ rs ws τ → PR (gElems h0 g sz k') σ (r0 ++ rs) ws τ) (hl : off + len ≤ es.length) (hv : (es.drop off).take len = vs)
    (h2 : PR (k sz vs) σ rs ws τ) : PR (gView (.srf h0 g sz off len) k) σ (r0 ++ rs) ws τ := by
  subst hv
  simp only [gView]
  refine ha _ ?_
  simp only [if_pos hl]; exact h2
theorem PR_viewA {o off len : Nat} {cs vs ws' : List V} {k : Nat → List V → Prog} (h : σ.objs[o]? = some (some (.cells cs))) (hl : off + len ≤ cs.length) (hv : (cs.drop off).take len = vs) (hb : borrows (fun i => .obj o (off + i)) 0 vs = ws') (hp : ws'.all V.plain = true) (h2 : PR (k 1 ws') σ rs ws τ) : PR (gView (.asl (.obj o off) len) k) σ (.obj o :: rs) ws τ := by
  simp only [gView]
  exact PR_cellsO h hl hv hb (by simp only [hp, if_true]; exact h2)
def lenOf : V → Option Nat
  | .str s => some s.length
  | .isl _ _ es | .xsl _ _ es | .fsl _ _ es | .csl _ es => some es.length
  | .nilS _ => some 0
  | .srf _ _ _ _ len => some len
  | .asl _ len => some len
  | .nilm => some 0
  | _ => none
theorem PR_len {n : Nat} {k : Nat → Prog} (h : lenOf v = some n) (h2 : PR (k n) σ rs ws τ) : PR (lenV v k) σ rs ws τ := by
  cases v <;> simp only [lenOf] at h <;> first | (cases h; done) | (cases h; exact h2)
theorem binV_shr {k k' : IntKind} {a b : Int} (h : 0 ≤ b) : binV .shr (.int k a) (.int k' b) = some (.int k (a.fdiv (2 ^ min b.toNat k.bits))) := by
  simp only [binV]; rw [if_neg (by omega)]
theorem binV_shl {k k' : IntKind} {a b : Int} (h : 0 ≤ b) : binV .shl (.int k a) (.int k' b) = some (.int k (k.wrap (a * 2 ^ min b.toNat k.bits))) := by
  simp only [binV]; rw [if_neg (by omega)]
theorem flat_by (l : List Nat) : (byN l).all V.flat = true := by simp [byN, V.flat]
theorem PR_gMoveV {mk : Nat → Option Home} (h2 : PR (k v) σ rs ws τ) (hp : v.plain = true) : PR (gMove mk (.val v) k) σ rs ws τ := by
  simp only [gMove, gOpd, hp, if_true]; exact h2
theorem PR_gMoveP {mk : Nat → Option Home} (h : σ.slots[t]? = some v) (hp : v.plain = true) (h2 : PR (k v) σ rs ws τ) : PR (gMove mk (.tmp t) k) σ (.slot t :: rs) ws τ :=
  PR_opdT h (by simp only [hp, if_true]; exact h2)
theorem PR_gMove {mk : Nat → Option Home} (h : σ.slots[t]? = some v) (hp : v.plain = false) (h2 : PR (drain (.tmp t) <| settle mk 0 v.leaves fun ls => k (v.withLeaves ls)) σ rs ws τ) : PR (gMove mk (.tmp t) k) σ (.slot t :: rs) ws τ :=
  PR_opdT h (by simp only [hp, Bool.false_eq_true, if_false]; exact h2)
theorem PR_gKeepV {mk : Nat → Option Home} (h2 : PR (k v) σ rs ws τ) (hp : v.plain = true) : PR (gKeep mk (.val v) k) σ rs ws τ := by
  simp only [gKeep, gOpd, hp, if_true]; exact h2
theorem PR_gKeepP {mk : Nat → Option Home} (h : σ.slots[t]? = some v) (hp : v.plain = true) (h2 : PR (k v) σ rs ws τ) : PR (gKeep mk (.tmp t) k) σ (.slot t :: rs) ws τ :=
  PR_opdT h (by simp only [hp, if_true]; exact h2)
theorem PR_gKeep {mk : Nat → Option Home} (h : σ.slots[t]? = some v) (hp : v.plain = false) (h2 : PR (drain (.tmp t) <| keeps mk 0 v.leaves fun ls => k (v.withLeaves ls)) σ rs ws τ) : PR (gKeep mk (.tmp t) k) σ (.slot t :: rs) ws τ :=
  PR_opdT h (by simp only [hp, Bool.false_eq_true, if_false]; exact h2)
theorem PR_gImmV (h2 : PR (k (freeze1 v)) σ rs ws τ) (hp : v.plain = true) : PR (gImm (.val v) k) σ rs ws τ := by
  simp only [gImm, gOpd, hp, if_true]; exact h2
theorem PR_gImmP (h : σ.slots[t]? = some v) (hp : v.plain = true) (h2 : PR (k (freeze1 v)) σ rs ws τ) : PR (gImm (.tmp t) k) σ (.slot t :: rs) ws τ :=
  PR_opdT h (by simp only [hp, if_true]; exact h2)
theorem PR_gImm (h : σ.slots[t]? = some v) (hp : v.plain = false) (h2 : PR (drain (.tmp t) <| settle (fun _ => none) 0 v.leaves fun ls => (if (ls.map freeze1).all V.inElem then k (v.withLeaves (ls.map freeze1)) else .fail)) σ rs ws τ) : PR (gImm (.tmp t) k) σ (.slot t :: rs) ws τ :=
  PR_opdT h (by simp only [hp, Bool.false_eq_true, if_false]; exact h2)
theorem PR_settle {mk : Nat → Option Home} {i : Nat} {ls us : List V} {k : List V → Prog} (h : ∀ k, settle mk i ls k = k us) (h2 : PR (k us) σ rs ws τ) : PR (settle mk i ls k) σ rs ws τ := by rw [h]; exact h2
theorem PR_settleR {mk : Nat → Option Home} {i : Nat} {h0 : Home} {g sz off len : Nat} {vs : List V} {k : List V → Prog} (h : PR (settle1 (mk i) (.srf h0 g sz off len) fun v' => settle mk (i + 1) vs fun vs' => k (v' :: vs')) σ rs ws τ) : PR (settle mk i (.srf h0 g sz off len :: vs) k) σ rs ws τ := h
theorem PR_keeps {mk : Nat → Option Home} {i : Nat} {ls us : List V} {k : List V → Prog} (h : ∀ k, keeps mk i ls k = k us) (h2 : PR (k us) σ rs ws τ) : PR (keeps mk i ls k) σ rs ws τ := by rw [h]; exact h2
theorem PR_build {off n : Nat} {x : Opd} {ps : List (Nat × Nat × Opd)} {cs : List V} {dd : Option Nat} (h : PR (gMove (fun i => dd.map fun d => .slot d (off + i)) x fun v =>
      if v.cells.length = n ∧ off + n ≤ cs.length ∧ v.here = true then buildP dd ps (splice cs off v.cells) else .fail) σ rs ws τ) : PR (buildP dd ((off, n, x) :: ps) cs) σ rs ws τ := h
theorem PR_build0 {cs : List V} {dd : Option Nat} (h : PR (putO dd (.agg cs) .ret) σ rs ws τ) : PR (buildP dd [] cs) σ rs ws τ := h
theorem PR_buildS {sz i : Nat} {x : Opd} {ps : List (Nat × Opd)} {es : List V} {dd : Option Nat} (h : PR (gImm x fun v => if v.cells.length = sz ∧ i < es.length ∧ v.here = true then buildSliceP dd sz ps (es.set i v) else .fail) σ rs ws τ) : PR (buildSliceP dd sz ((i, x) :: ps) es) σ rs ws τ := h
theorem PR_buildS0 {sz : Nat} {es : List V} {dd : Option Nat} (h : PR (putO dd (.xsl 0 sz es) .ret) σ rs ws τ) : PR (buildSliceP dd sz [] es) σ rs ws τ := h
theorem PR_ahS {off s : Nat} {x : V} (h : σ.slots[s]? = some v) (hl : v.leaves[off]? = some x) : ∀ (k' : V → Prog), PR (k' x) σ rs ws τ → PR (gHome (.slot s off) k') σ ([.slot s] ++ rs) ws τ := fun _ h2 => PR_homeS h hl h2
theorem PR_ahO {off o : Nat} {x : V} {cs : List V} (h : σ.objs[o]? = some (some (.cells cs))) (hl : cs[off]? = some x) : ∀ (k' : V → Prog), PR (k' x) σ rs ws τ → PR (gHome (.obj o off) k') σ ([.obj o] ++ rs) ws τ := fun _ h2 => PR_homeO h hl h2
section
variable {r0 : List Loc} {hh : Option Home} {h : Home} {g sz off len : Nat} {es vs : List V}
theorem PR_set1X (hg : ∀ k', PR (k' (.xsl g sz es)) σ rs ws τ → PR (gHome h k') σ (r0 ++ rs) ws τ) (hl : off + len ≤ es.length) (hv : (es.drop off).take len = vs) (h2 : PR (sHome h (.gone (g + 1)) (k (.xsl 0 sz vs))) σ rs ws τ) : PR (settle1 (some h) (.srf h g sz off len) k) σ (r0 ++ rs) ws τ := by
  subst hv
  simp only [settle1]
  refine hg _ ?_
  simp only [hl, and_self, if_true]; exact h2
theorem PR_set1F (hg : ∀ k', PR (k' (.fsl g sz es)) σ rs ws τ → PR (gHome h k') σ (r0 ++ rs) ws τ) (hl : off + len = es.length) (hv : (es.drop off).take len = vs) (h2 : PR (sHome h (.gone (g + 1)) (k (.fsl 0 sz vs))) σ rs ws τ) : PR (settle1 (some h) (.srf h g sz off len) k) σ (r0 ++ rs) ws τ := by
  subst hv
  simp only [settle1]
  refine hg _ ?_
  simp only [hl, Nat.le_refl, and_self, if_true]; exact h2
theorem PR_set2X (hg : ∀ k', PR (k' (.xsl g sz es)) σ rs ws τ → PR (gHome h k') σ (r0 ++ rs) ws τ) (hne : hh ≠ some h) (hl : off + len ≤ es.length) (hv : (es.drop off).take len = vs) (h2 : PR (sHome h (.fsl g sz es) (k (.isl 0 sz vs))) σ rs ws τ) : PR (settle1 hh (.srf h g sz off len) k) σ (r0 ++ rs) ws τ := by
  subst hv
  simp only [settle1]
  refine hg _ ?_
  simp only [hl, and_self, if_true, if_neg hne]; exact h2
theorem PR_set2F (hg : ∀ k', PR (k' (.fsl g sz es)) σ rs ws τ → PR (gHome h k') σ (r0 ++ rs) ws τ) (hne : hh ≠ some h) (hl : off + len ≤ es.length) (hv : (es.drop off).take len = vs) (h2 : PR (k (.isl 0 sz vs)) σ rs ws τ) : PR (settle1 hh (.srf h g sz off len) k) σ (r0 ++ rs) ws τ := by
  subst hv
  simp only [settle1]
  refine hg _ ?_
  simp only [hl, and_self, if_true, if_neg hne]; exact h2
theorem PR_set2I (hg : ∀ k', PR (k' (.isl g sz es)) σ rs ws τ → PR (gHome h k') σ (r0 ++ rs) ws τ) (hl : off + len ≤ es.length) (hv : (es.drop off).take len = vs) (h2 : PR (k (.isl 0 sz vs)) σ rs ws τ) : PR (settle1 hh (.srf h g sz off len) k) σ (r0 ++ rs) ws τ := by
  subst hv
  simp only [settle1]
  refine hg _ ?_
  simp only [hl, and_self, if_true]; exact h2
end
end
section
variable {cal : Callee} {base : Nat} {σ σ1 : St} {rs ws : List Loc}
theorem PO_cons {Q : St → Prop} {o : VOper} {os : List VOper} (h : PR (o.prog cal base) σ rs ws σ1) (h2 : WO cal base os σ1 Q) : WO cal base (o :: os) σ Q := WO_cons h.1 h2
theorem PD_cons {Q : St → Prop} {o : VOper} {os : List VOper} {done : List (List Loc × List Loc)} (h : PR (o.prog cal base) σ rs ws σ1) (hc : clashes o.before (rs, ws) 0 done = false) (h2 : WD cal base os (done ++ [(rs, ws)]) σ1 Q) : WD cal base (o :: os) done σ Q := WD_cons h.2 hc h.1 h2
theorem PO_n {d : Option Nat} {op : VOp} {bf : Nat} (h : PR (opProg cal base d op) σ rs ws σ1) : PR (VOper.prog cal base ⟨d, op, none, bf⟩) σ rs ws σ1 := h
theorem PO_t {d : Option Nat} {op : VOp} {bf y : Nat} {b : Bool} (hy : σ.slots[y]? = some (.bool b)) (h : PR (opProg cal base d op) σ rs ws σ1) : PR (VOper.prog cal base ⟨d, op, some (y, b), bf⟩) σ (.slot y :: rs) ws σ1 := by
  refine PR_getS (k := fun | .bool b' => if b' == b then opProg cal base d op else skipP d | .tup [] => skipP d | _ => .fail) hy ?_
  simp only [beq_self_eq_true, if_true]; exact h
theorem PO_f {d : Option Nat} {op : VOp} {bf y : Nat} {b b' : Bool} (hy : σ.slots[y]? = some (.bool b')) (hb : (b' == b) = false) (h : PR (skipP d) σ rs ws σ1) : PR (VOper.prog cal base ⟨d, op, some (y, b), bf⟩) σ (.slot y :: rs) ws σ1 := by
  refine PR_getS (k := fun | .bool b' => if b' == b then opProg cal base d op else skipP d | .tup [] => skipP d | _ => .fail) hy ?_
  simp only [hb, Bool.false_eq_true, if_false]; exact h
theorem PO_u {d : Option Nat} {op : VOp} {bf y : Nat} {b : Bool} (hy : σ.slots[y]? = some (.tup [])) (h : PR (skipP d) σ rs ws σ1) : PR (VOper.prog cal base ⟨d, op, some (y, b), bf⟩) σ (.slot y :: rs) ws σ1 :=
  PR_getS (k := fun | .bool b' => if b' == b then opProg cal base d op else skipP d | .tup [] => skipP d | _ => .fail) hy h
theorem gSome {α : Type} {a : Option α} {b : α} (h : a = some b) : a = some b := h
theorem gTrue {a : Bool} (h : a = true) : a = true := h
theorem gFalse {a : Bool} (h : a = false) : a = false := h
theorem gWOs {Q : St → Prop} {os : List VOper} {d : Nat} {v : V} (h : WO cal base os (σ.setS d v) Q) : WO cal base os (σ.setS d v) Q := h
theorem gWOo {Q : St → Prop} {os : List VOper} {d : Nat} {v : Option Obj} (h : WO cal base os (σ.setO d v) Q) : WO cal base os (σ.setO d v) Q := h
theorem gWDs {Q : St → Prop} {os : List VOper} {d : Nat} {v : V} {done : List (List Loc × List Loc)} (h : WD cal base os done (σ.setS d v) Q) : WD cal base os done (σ.setS d v) Q := h
theorem gWDo {Q : St → Prop} {os : List VOper} {d : Nat} {v : Option Obj} {done : List (List Loc × List Loc)} (h : WD cal base os done (σ.setO d v) Q) : WD cal base os done (σ.setO d v) Q := h
end
end Go.Vq
namespace Go.Vq
section
variable {G : VProg} {m base site : Nat} {σ σ0 : St} {Q : Out → St → Prop}
def QsN (cal : Callee) (its : FuncId → Iter) (again : Nat → VCode → St → Option (Out × St)) (base : Nat) (b : VCode) (Q : Out → St → Prop) : Out → St → Prop
  | .normal, s => W cal its again base b s Q
  | _, _ => False
theorem QsN_n {cal : Callee} {its : FuncId → Iter} {again : Nat → VCode → St → Option (Out × St)} {b : VCode} (h : W cal its again base b σ Q) : QsN cal its again base b Q .normal σ := h
def Qit (m : Nat) (sl : List V) (next : St) (I : Prop) (Q : Out → St → Prop) : Out → St → Prop
  | .normal, s => rangeSt none m sl s = next ∧ I
  | o, s => Q o (rangeSt none m sl s)
theorem Qi_n {m : Nat} {sl : List V} {next : St} {I : Prop} (h : rangeSt none m sl σ = next) (hI : I) : Qit m sl next I Q .normal σ := ⟨h, hI⟩
theorem Qi_r {m : Nat} {sl : List V} {next τ : St} {I : Prop} (h : rangeSt none m sl σ = τ) (hq : Q .ret τ) : Qit m sl next I Q .ret σ := by subst h; exact hq
theorem W_rounds {cal : Callee} {its : FuncId → Iter} {again : Nat → VCode → St → Option (Out × St)} {mm : Nat} {sl : List V} {ps : List Nat} {a b : VCode} :
    ∀ (xs : List (List V)) (S : Nat → St) (I : Nat → Prop), I 0 → (∀ i (h : i < xs.length), I i → W cal its again mm a (setPs ps xs[i] (S i)) (QsN cal its again mm b (Qit mm sl (S (i + 1)) (I (i + 1)) Q))) → (I xs.length → Q .normal (S xs.length)) →
      ∃ o s, rounds (fun y σ1 => match step cal its again mm a (setPs ps y σ1) with
    | some (.normal, σ2) => step cal its again mm b σ2
    | _ => none) (rangeSt none mm sl) xs (S 0) = some (o, s) ∧ Q o s
  | [], S, I, h0, _, hq => ⟨_, _, rfl, hq h0⟩
  | x :: xs, S, I, h0, hr, hq => by
    obtain ⟨o, s, h1, h2⟩ := hr 0 (by simp) h0
    cases o with
    | normal =>
      obtain ⟨o', s', h3, h4⟩ := h2
      have h1' : step cal its again mm a (setPs ps x (S 0)) = some (.normal, s) := h1
      cases o' with
      | normal =>
        obtain ⟨o2, s2, h5, h6⟩ := W_rounds (sl := sl) xs (fun i => S (i + 1)) (fun i => I (i + 1)) h4.2 (fun i h => hr (i + 1) (by simpa using h)) hq
        refine ⟨o2, s2, ?_, h6⟩
        simp only [rounds, h1', h3]
        have : rangeSt none mm sl s' = S (0 + 1) := h4.1
        rw [this]; exact h5
      | exit id => exact ⟨_, _, by simp only [rounds, h1', h3], h4⟩
      | ret => exact ⟨_, _, by simp only [rounds, h1', h3], h4⟩
    | exit id => exact h2.elim
    | ret => exact h2.elim
theorem W_range {cal : Callee} {its : FuncId → Iter} {again : Nat → VCode → St → Option (Out × St)} {x : Opd} {ps : List Nat} {keep : Option (List Nat)} {a b : VCode} {g : FuncId} {caps : List V} {bs : List (List V)} {xs : List (List V)}
    (hv : opdV x σ = .func g caps) (hb : boxesOf caps = some bs) (hi : its g bs = some (ps.length, xs)) (S : Nat → St) (I : Nat → Prop) (hI : I 0) (h0 : rangeSt keep (base + site) σ.slots σ = S 0)
    (hr : ∀ i (h : i < xs.length), I i → W cal its again (base + site) a (setPs ps xs[i] (S i)) (QsN cal its again (base + site) b (Qit (base + site) (S 0).slots (S (i + 1)) (I (i + 1)) Q))) (hq : I xs.length → Q .normal (S xs.length)) :
    W cal its again base (.range x ps site keep a b) σ Q := by
  obtain ⟨o, s, h1, h2⟩ := W_rounds xs S I hI hr hq
  refine ⟨o, s, ?_, h2⟩
  simp only [step, rangeGo, hv, hb, hi, if_true, h0]
  exact h1
end
end Go.Vq
namespace Go.Vq
section
theorem idsIn_by (l : List Nat) : V.objIds.idsIn (byN l) = [] := by
  induction l with | nil => rfl | cons x l ih => rw [byN_cons]; simp only [V.objIds.idsIn, V.objIds, ih, List.nil_append]
theorem idsIn_c (v : V) (vs : List V) : V.objIds.idsIn (v :: vs) = v.objIds ++ V.objIds.idsIn vs := by rw [V.objIds.idsIn]
theorem idsIn_n : V.objIds.idsIn [] = [] := by rw [V.objIds.idsIn]
theorem ids_agg (cs : List V) : V.objIds (.agg cs) = V.objIds.idsIn cs := by rw [V.objIds]
theorem ids_ptr (o off : Nat) : V.objIds (.ptr (.obj o off)) = [o] := by rw [V.objIds]
theorem ids_int (k : IntKind) (n : Int) : V.objIds (.int k n) = [] := by simp [V.objIds]
theorem ids_bool (b : Bool) : V.objIds (.bool b) = [] := by simp [V.objIds]
theorem ids_str (b : List UInt8) : V.objIds (.str b) = [] := by simp [V.objIds]
theorem ids_isl (g sz : Nat) (es : List V) : V.objIds (.isl g sz es) = [] := by simp [V.objIds]
theorem ids_xsl (g sz : Nat) (es : List V) : V.objIds (.xsl g sz es) = [] := by simp [V.objIds]
theorem ids_fsl (g sz : Nat) (es : List V) : V.objIds (.fsl g sz es) = [] := by simp [V.objIds]
theorem ids_nilS (sz : Nat) : V.objIds (.nilS sz) = [] := by simp [V.objIds]
theorem rens_by (f : Nat → Option Nat) (l : List Nat) : rens f (byN l) = some (byN l) := by
  induction l with
  | nil => rw [byN_nil, rens]
  | cons x l ih => rw [byN_cons, rens, ih]; simp [V.ren]
theorem rens_c (f : Nat → Option Nat) (v : V) (vs : List V) : rens f (v :: vs) = (V.ren f v).bind fun v' => (rens f vs).map (v' :: ·) := by
  rw [rens]; cases V.ren f v <;> cases rens f vs <;> rfl
theorem rens_n (f : Nat → Option Nat) : rens f [] = some [] := by rw [rens]
theorem ren_int (f : Nat → Option Nat) (k : IntKind) (n : Int) : V.ren f (.int k n) = some (.int k n) := by simp [V.ren]
theorem ren_bool (f : Nat → Option Nat) (b : Bool) : V.ren f (.bool b) = some (.bool b) := by simp [V.ren]
theorem ren_str (f : Nat → Option Nat) (b : List UInt8) : V.ren f (.str b) = some (.str b) := by simp [V.ren]
theorem ren_isl (f : Nat → Option Nat) (g sz : Nat) (es : List V) : V.ren f (.isl g sz es) = some (.isl g sz es) := by simp [V.ren]
theorem ren_xsl (f : Nat → Option Nat) (g sz : Nat) (es : List V) : V.ren f (.xsl g sz es) = some (.xsl g sz es) := by simp [V.ren]
theorem ren_fsl (f : Nat → Option Nat) (g sz : Nat) (es : List V) : V.ren f (.fsl g sz es) = some (.fsl g sz es) := by simp [V.ren]
theorem ren_nilS (f : Nat → Option Nat) (sz : Nat) : V.ren f (.nilS sz) = some (.nilS sz) := by simp [V.ren]
theorem ren_nil (f : Nat → Option Nat) : V.ren f .nil = some .nil := by simp [V.ren]
theorem ren_iptr (f : Nat → Option Nat) (cs : List V) : V.ren f (.iptr cs) = some (.iptr cs) := by simp [V.ren]
theorem ren_ptr (f : Nat → Option Nat) (o off : Nat) : V.ren f (.ptr (.obj o off)) = (f o).map fun o => .ptr (.obj o off) := by
  simp only [V.ren, Ref.ren]; cases f o <;> rfl
theorem ren_agg (f : Nat → Option Nat) (cs : List V) : V.ren f (.agg cs) = (rens f cs).map .agg := by rw [V.ren]
theorem ren_tup (f : Nat → Option Nat) (cs : List V) : V.ren f (.tup cs) = (rens f cs).map .tup := by rw [V.ren]
theorem ren_func (f : Nat → Option Nat) (g : FuncId) (cs : List V) : V.ren f (.func g cs) = (rens f cs).map (.func g) := by rw [V.ren]
theorem zero1_by (l : List Nat) : (byN l).map zero1 = byN l := by induction l with | nil => rfl | cons x l ih => simp only [byN_cons, List.map_cons, zero1, ih]
theorem objRen_e (f : Nat → Option Nat) (cs : List V) : objRen f (.cells cs) = (rens f (cs.map zero1)).map .cells := rfl
theorem mapM_c {α β : Type} (f : α → Option β) (a : α) (l : List α) : (a :: l).mapM f = (f a).bind fun b => (l.mapM f).map (b :: ·) := by
  rw [List.mapM_cons]; cases f a <;> cases l.mapM f <;> rfl
theorem mapM_n {α β : Type} (f : α → Option β) : ([] : List α).mapM f = some [] := rfl
theorem gTheres_by (l : List Nat) (k : Prog) : gTheres (byN l) k = k := by induction l with | nil => rfl | cons x l ih => rw [byN_cons]; simp only [gTheres, gThere1, ih]
theorem gTheres_app (a b : List V) (k : Prog) : gTheres (a ++ b) k = gTheres a (gTheres b k) := by induction a with | nil => rfl | cons x a ih => simp only [List.cons_append, gTheres, ih]
theorem gTh_agg (cs : List V) (vs : List V) (k : Prog) : gTheres (List.flatMap V.leaves (.agg cs :: vs)) k = gTheres cs (gTheres (List.flatMap V.leaves vs) k) := by rw [List.flatMap_cons, gTheres_app]; rfl
theorem flatMap_nil' : List.flatMap V.leaves [] = [] := rfl
end
section
variable {σ τ : St} {rs ws : List Loc} {t d : Nat} {v : V} {callee : Callee}
def callK (callee : Callee) (f : FuncId) (first : Nat) (dst : Option Nat) (vs : List V) (ids : List Nat) (os : List Obj) : Prog :=
    if ids.Nodup then
      match rens (findIdx ids) vs, os.mapM (objRen (findIdx ids)) with
      | some vs', some os' =>
        match callee f vs' os' with
        | some (r, os'') =>
          match r.ren ((ids ++ newIds first (os''.length - ids.length))[·]?), os''.mapM (objRen ((ids ++ newIds first (os''.length - ids.length))[·]?)) with
          | some r', some os3 =>
            if ¬ (ids ++ newIds first (os''.length - ids.length)).Nodup ∨ os''.length < ids.length then .fail else
            setObjs ids (os3.take ids.length) <| newObjs first (os3.drop ids.length) <| resRef r' fun r'' => putO dst r'' .ret
          | _, _ => .fail
        | none => .fail
      | _, _ => .fail
    else .fail
theorem PR_call {f first : Nat} {args : List Opd} {caps : List V} {dst : Option Nat} (h : PR (lendArgs args fun vs => gTheres ((vs ++ caps).flatMap V.leaves) <| reach 64 (V.objIds.idsIn (vs ++ caps)) [] fun ids => getObjs ids fun os => callK callee f first dst (vs ++ caps) ids os) σ rs ws τ) :
    PR (callP callee false f first dst args caps) σ rs ws τ := by
  unfold callP
  rw [if_neg (by decide)]
  exact h
theorem PR_callK {f first : Nat} {dst : Option Nat} {vs vs' : List V} {ids : List Nat} {os os' os'' os3 : List Obj} {q r' : V} {nn : Nat} (hn : ids.Nodup) (h5 : rens (findIdx ids) vs = some vs') (h6 : os.mapM (objRen (findIdx ids)) = some os')
    (hc : callee f vs' os' = some (q, os'')) (hl : os''.length - ids.length = nn) (h7 : q.ren ((ids ++ newIds first nn)[·]?) = some r') (h8 : os''.mapM (objRen ((ids ++ newIds first nn)[·]?)) = some os3)
    (h9 : (ids ++ newIds first nn).Nodup) (h10 : ids.length ≤ os''.length) (h : PR (setObjs ids (os3.take ids.length) <| newObjs first (os3.drop ids.length) <| resRef r' fun r'' => putO dst r'' .ret) σ rs ws τ) :
    PR (callK callee f first dst vs ids os) σ rs ws τ := by
  subst hl
  have h11 : ¬ (¬ (ids ++ newIds first (os''.length - ids.length)).Nodup ∨ os''.length < ids.length) := by
    rintro (h | h)
    · exact h h9
    · omega
  simp only [callK, hn, if_true, h5, h6, hc, h7, h8, if_neg h11]
  exact h
theorem PR_lendN {k : List V → Prog} (h : PR (k []) σ rs ws τ) : PR (lendArgs [] k) σ rs ws τ := h
theorem PR_lendT {xs : List Opd} {k : List V → Prog} (h : σ.slots[t]? = some v) (hv : ∀ us, v ≠ .tup us) (h2 : PR (settle (fun _ => none) 0 (borrows (.slot t) 0 v.leaves) fun ls => lendArgs xs fun vs => k (v.withLeaves (ls.map freeze1) :: vs)) σ rs ws τ) :
    PR (lendArgs (.tmp t :: xs) k) σ (.slot t :: rs) ws τ := by
  refine PR_getS h ?_
  cases v <;> first | exact h2 | exact absurd rfl (hv _)
theorem PR_lendV {xs : List Opd} {k : List V → Prog} (hv : ∀ us, v ≠ .tup us) (h2 : PR (lendArgs xs fun vs => k (v.withLeaves (v.leaves.map freeze1) :: vs)) σ rs ws τ) : PR (lendArgs (.val v :: xs) k) σ rs ws τ := by
  cases v <;> first | exact h2 | exact absurd rfl (hv _)
theorem PR_reachN {n : Nat} {acc : List Nat} {k : List Nat → Prog} (h : PR (k acc) σ rs ws τ) : PR (reach n [] acc k) σ rs ws τ := by
  cases n <;> exact h
theorem PR_reachC {n o : Nat} {todo acc : List Nat} {k : List Nat → Prog} {cs : List V} (hn : o ∉ acc) (h : σ.objs[o]? = some (some (.cells cs))) (h2 : PR (reach n (todo ++ V.objIds.idsIn cs) (acc ++ [o]) k) σ rs ws τ) : PR (reach (n + 1) (o :: todo) acc k) σ (.obj o :: rs) ws τ := by
  simp only [reach, if_neg hn]
  exact PR_getO h h2
theorem PR_reachS {n o : Nat} {todo acc : List Nat} {k : List Nat → Prog} (hn : o ∈ acc) (h2 : PR (reach n todo acc k) σ rs ws τ) : PR (reach (n + 1) (o :: todo) acc k) σ rs ws τ := by
  simp only [reach, if_pos hn]
  exact h2
theorem PR_getObN {k : List Obj → Prog} (h : PR (k []) σ rs ws τ) : PR (getObjs [] k) σ rs ws τ := h
theorem PR_getObC {o : Nat} {os : List Nat} {k : List Obj → Prog} {cs : List V} (h : σ.objs[o]? = some (some (.cells cs))) (h2 : PR (getObjs os fun xs => k (.cells cs :: xs)) σ rs ws τ) : PR (getObjs (o :: os) k) σ (.obj o :: rs) ws τ :=
  PR_getO h h2
theorem PR_setObN {k : Prog} (h : PR k σ rs ws τ) : PR (setObjs [] [] k) σ rs ws τ := h
theorem PR_setObC {o : Nat} {os : List Nat} {k : Prog} {cs ns ls : List V} {xs : List Obj} (h : σ.objs[o]? = some (some (.cells cs))) (hr : regens cs ns = some ls) (hl : ls.length = cs.length) (ho : o < σ.objs.length) (h2 : PR (setObjs os xs k) (σ.setO o (some (.cells ls))) rs ws τ) :
    PR (setObjs (o :: os) (.cells ns :: xs) k) σ (.obj o :: rs) (.obj o :: ws) τ := by
  refine PR_getO h ?_
  simp only [hr, if_pos hl]
  exact PR_setO ho h2
theorem PR_newObN {o : Nat} {k : Prog} (h : PR k σ rs ws τ) : PR (newObjs o [] k) σ rs ws τ := h
theorem PR_newObC {o : Nat} {x : Obj} {xs : List Obj} {k : Prog} (h : σ.objs[o]? = some none) (ho : o < σ.objs.length) (h2 : PR (newObjs (o + 1) xs k) (σ.setO o (some x)) rs ws τ) : PR (newObjs o (x :: xs) k) σ (.obj o :: rs) (.obj o :: ws) τ := by
  refine PR_getO h ?_
  exact PR_setO ho h2
theorem PR_resRef {k : V → Prog} (hv : ∀ h g sz i off, v ≠ .ptr (.elem h g sz i off)) (h2 : PR (k v) σ rs ws τ) : PR (resRef v k) σ rs ws τ := by
  cases v with
  | ptr r => cases r with
    | obj => exact h2
    | elem => exact absurd rfl (hv _ _ _ _ _)
  | _ => exact h2
theorem PR_theres {ls : List V} {p : Prog} (h : gTheres ls p = p) (h2 : PR p σ rs ws τ) : PR (gTheres ls p) σ rs ws τ := by rw [h]; exact h2
theorem PR_callR {f first : Nat} {vs : List V} {dst : Option Nat} (h : PR (gTheres (vs.flatMap V.leaves) <| reach 64 (V.objIds.idsIn vs) [] fun ids => getObjs ids fun os => callK callee f first dst vs ids os) σ rs ws τ) : PR (callR callee f first dst vs) σ rs ws τ := h
theorem PR_moveN {mv : Nat} {k : List V → Prog} (h : PR (k []) σ rs ws τ) : PR (moveArgs mv [] k) σ rs ws τ := h
theorem PR_moveT {mv : Nat} {xs : List Opd} {k : List V → Prog} (hm : mv % 2 = 1) (h : σ.slots[t]? = some v) (h2 : PR (gMove (srcHome v) (.tmp t) fun v => moveArgs (mv / 2) xs fun vs => k (v :: vs)) σ rs ws τ) : PR (moveArgs mv (.tmp t :: xs) k) σ (.slot t :: rs) ws τ := by
  simp only [moveArgs, hm, if_true]
  exact PR_getS h h2
theorem PR_moveV {mv : Nat} {xs : List Opd} {k : List V → Prog} (hm : mv % 2 = 1) (h2 : PR (gMove (srcHome v) (.val v) fun v => moveArgs (mv / 2) xs fun vs => k (v :: vs)) σ rs ws τ) : PR (moveArgs mv (.val v :: xs) k) σ rs ws τ := by
  simp only [moveArgs, hm, if_true]
  exact h2
theorem PR_move0T {mv : Nat} {xs : List Opd} {k : List V → Prog} (hm : mv % 2 = 0) (h : σ.slots[t]? = some v) (hv : ∀ us, v ≠ .tup us) (h2 : PR (settle (fun _ => none) 0 (borrows (.slot t) 0 v.leaves) fun ls => moveArgs (mv / 2) xs fun vs => k (v.withLeaves (ls.map freeze1) :: vs)) σ rs ws τ) :
    PR (moveArgs mv (.tmp t :: xs) k) σ (.slot t :: rs) ws τ := by
  have h1 : ¬ mv % 2 = 1 := by omega
  simp only [moveArgs, h1, if_false]
  refine PR_getS h ?_
  cases v <;> first | exact h2 | exact absurd rfl (hv _)
theorem PR_move0V {mv : Nat} {xs : List Opd} {k : List V → Prog} (hm : mv % 2 = 0) (hv : ∀ us, v ≠ .tup us) (h2 : PR (moveArgs (mv / 2) xs fun vs => k (v.withLeaves (v.leaves.map freeze1) :: vs)) σ rs ws τ) : PR (moveArgs mv (.val v :: xs) k) σ rs ws τ := by
  have h1 : ¬ mv % 2 = 1 := by omega
  simp only [moveArgs, h1, if_false]
  cases v <;> first | exact h2 | exact absurd rfl (hv _)
theorem PR_calliR {f len g sz gg : Nat} {d : Option Nat} {h0 : Home} {es fs : List V} {m : List (V × V)} {r0 : List Loc} (hx : σ.slots[t]? = some (.srf h0 g sz 0 len)) (ha : ∀ k', PR (k' true es) σ rs ws τ → PR (gElems h0 g sz k') σ (r0 ++ rs) ws τ)
    (hs : es.length ≤ 140737488355328 ∧ fs.length = es.length ∧ es.length ≠ 0) (hc : callee f [.isl 0 sz es] [] = some (.isl gg sz fs, [.map m])) (hl : len = es.length) (h2 : PR (sHome h0 (.xsl g sz fs) (putO d (.tup []) .ret)) σ rs ws τ) :
    PR (calliP callee f d [.tmp t]) σ (.slot t :: (r0 ++ rs)) ws τ := by
  obtain ⟨h3, h4, h5⟩ := hs
  subst hl
  refine PR_getS hx ?_
  refine ha _ ?_
  simp only [h3, and_self, if_true, hc, h4, h5, if_false]
  exact h2
theorem PR_calli0 {f len g sz gg : Nat} {d : Option Nat} {h0 : Home} {es fs : List V} {m : List (V × V)} {r0 : List Loc} (hx : σ.slots[t]? = some (.srf h0 g sz 0 len)) (ha : ∀ k', PR (k' true es) σ rs ws τ → PR (gElems h0 g sz k') σ (r0 ++ rs) ws τ)
    (hs : es = []) (hc : callee f [.isl 0 sz []] [] = some (.isl gg sz fs, [.map m])) (hf : fs.length = 0) (hl : len = 0) (h2 : PR (putO d (.tup []) .ret) σ rs ws τ) :
    PR (calliP callee f d [.tmp t]) σ (.slot t :: (r0 ++ rs)) ws τ := by
  subst hs hl
  refine PR_getS hx ?_
  refine ha _ ?_
  simp only [List.length_nil, Nat.zero_le, and_self, if_true, hc, hf]
  exact h2
theorem PR_callA {r0 : List Loc} {f first : Nat} {args : List Opd} {caps vs : List V} {dst : Option Nat} {q : V} (ha : ∀ k, PR (k vs) σ rs ws τ → PR (presArgs args k) σ (r0 ++ rs) ws τ) (hi : V.objIds.idsIn (vs ++ caps) = []) (hc : callee f (vs ++ caps) [] = some (q, [])) (hq : q.apart = true) (h : PR (putO dst q .ret) σ rs ws τ) :
    PR (callP callee true f first dst args caps) σ (r0 ++ rs) ws τ := by
  simp only [callP, if_true]
  refine ha _ ?_
  simp only [hi, if_true, hc, hq]
  exact h
theorem gRens {f : Nat → Option Nat} {l r : List V} (h : rens f l = some r) : rens f l = some r := h
theorem gRen {f : Nat → Option Nat} {l r : V} (h : V.ren f l = some r) : V.ren f l = some r := h
theorem gMapM {f : Obj → Option Obj} {l r : List Obj} (h : l.mapM f = some r) : l.mapM f = some r := h
theorem gPR {p : Prog} (h : PR p σ rs ws τ) : PR p σ rs ws τ := h
theorem gWO {cal : Callee} {base : Nat} {os : List VOper} {Q : St → Prop} (h : WO cal base os σ Q) : WO cal base os σ Q := h
theorem gWD {cal : Callee} {base : Nat} {os : List VOper} {done : List (List Loc × List Loc)} {Q : St → Prop} (h : WD cal base os done σ Q) : WD cal base os done σ Q := h
theorem gW {cal : Callee} {its : FuncId → Iter} {again : Nat → VCode → St → Option (Out × St)} {base : Nat} {c : VCode} {Q : Out → St → Prop} (h : W cal its again base c σ Q) : W cal its again base c σ Q := h
theorem gQs {cal : Callee} {its : FuncId → Iter} {again : Nat → VCode → St → Option (Out × St)} {base : Nat} {b : VCode} {Q : Out → St → Prop} {o : Out} (h : Qseq cal its again base b Q o σ) : Qseq cal its again base b Q o σ := h
theorem gQb {base id : Nat} {keep : Option (List Nat)} {Q : Out → St → Prop} {o : Out} (h : Qblk base id keep Q o σ) : Qblk base id keep Q o σ := h
theorem gReach {n : Nat} {ids acc : List Nat} {k : List Nat → Prog} (h : PR (reach n ids acc k) σ rs ws τ) : PR (reach n ids acc k) σ rs ws τ := h
end
end Go.Vq
namespace Go.Vq
section
variable {σ τ : St} {rs ws r1 : List Loc} {t : Nat} {v : V} {us vs : List V} {xs : List Opd}
theorem regens_0A (b : List Nat) (vs : List V) : regens [] (byN b ++ vs) = (regens [] vs).map (byN b ++ ·) := by
  induction b with
  | nil => rw [byN_nil]; cases h : regens [] vs <;> simp [h]
  | cons x b ih => rw [byN_cons, List.cons_append, regens_0c, ih]; simp only [regen1, V.nextg, if_true, Option.bind_some]; cases regens [] vs <;> rfl
theorem regens_gA {b : List Nat} {n : Nat} (h : b.length = n + 1) (vs : List V) : regens [.gone 0] (byN b ++ vs) = (regens [] vs).map (byN b ++ ·) := by
  match b, h with
  | x :: b, _ => rw [byN_cons, List.cons_append, regens_c, regens_0A]; simp only [regen1, V.nextg, if_true, Option.bind_some]; cases regens [] vs <;> rfl
theorem take_byA {c : List Nat} {n : Nat} (h : c.length = n) (r : List V) : (byN c ++ r).take n = byN c := by rw [← h, ← byN_len]; exact List.take_left
theorem drop_byA {c : List Nat} {n : Nat} (h : c.length = n) (r : List V) : (byN c ++ r).drop n = r := by rw [← h, ← byN_len]; exact List.drop_left
theorem gThG {ls : List V} {p : Prog} (h : gTheres ls p = p) : gTheres ls p = p := h
theorem press_by (l : List Nat) (k : List V → Prog) : press (byN l) k = k (byN l) := by
  induction l generalizing k with
  | nil => rfl
  | cons x l ih => rw [byN_cons]; simp only [press, pres1, pres0, ih]
theorem PA_nil : ∀ (k : List V → Prog), PR (k []) σ rs ws τ → PR (presArgs [] k) σ ([] ++ rs) ws τ := fun _ h => h
theorem PA_T (h : σ.slots[t]? = some v) (hnt : ∀ us, v ≠ .tup us) (hp : ∀ k, press v.leaves k = k us) (hr : ∀ (k : List V → Prog), PR (k vs) σ rs ws τ → PR (presArgs xs k) σ (r1 ++ rs) ws τ) :
    ∀ (k : List V → Prog), PR (k (v.withLeaves us :: vs)) σ rs ws τ → PR (presArgs (.tmp t :: xs) k) σ ((.slot t :: r1) ++ rs) ws τ := by
  intro k h2
  refine PR_getS h ?_
  have := hr (fun vs => k (v.withLeaves us :: vs)) h2
  cases v <;> first | (simp only [hp]; exact this) | exact absurd rfl (hnt _)
theorem PA_V (hnt : ∀ us, v ≠ .tup us) (hp : ∀ k, press v.leaves k = k us) (hr : ∀ (k : List V → Prog), PR (k vs) σ rs ws τ → PR (presArgs xs k) σ (r1 ++ rs) ws τ) :
    ∀ (k : List V → Prog), PR (k (v.withLeaves us :: vs)) σ rs ws τ → PR (presArgs (.val v :: xs) k) σ (r1 ++ rs) ws τ := by
  intro k h2
  have := hr (fun vs => k (v.withLeaves us :: vs)) h2
  simp only [presArgs, presArg, gOpd]
  cases v <;> first | (simp only [hp]; exact this) | exact absurd rfl (hnt _)
end
end Go.Vq
set_option linter.unusedVariables false
set_option maxRecDepth 1000000
namespace Go.Vq
structure Hid (q : Prop) : Prop where
  h : q
end Go.Vq
