/- A machine of values and its tie to the model, and runs of it: part 1 of 14 (no law of Go is stated here). -/
import GoSem.Dispatch
import GoSem.Machine.Exec
set_option linter.unusedVariables false
set_option linter.unusedSimpArgs false
set_option linter.unusedSectionVars false
namespace Go.Vq
inductive Home where
  | slot (s off : Nat)
  | obj (o off : Nat)
  deriving DecidableEq, Repr, Inhabited
inductive Ref where
  | obj (o off : Nat)
  | elem (h : Home) (g sz i off : Nat)
  deriving DecidableEq, Repr, Inhabited
inductive V where
  | bool (b : Bool)
  | int (k : IntKind) (n : Int)
  | str (s : List UInt8)
  | nil
  | ptr (r : Ref)
  | iptr (cs : List V)
  | isl (g sz : Nat) (es : List V)
  | xsl (g sz : Nat) (es : List V)
  | fsl (g sz : Nat) (es : List V)   -- frozen; its end is still ours
  | csl (sz : Nat) (es : List V)
  | srf (h : Home) (g sz off len : Nat)
  | asl (r : Ref) (len : Nat)
  | nilS (sz : Nat)                  -- the nil slice
  | gone (g : Nat)
  | agg (cs : List V)
  | tup (vs : List V)
  | func (f : FuncId) (caps : List V)
  | nilf
  | map (o : Nat)
  | nilm
  | iface (t : TypeId) (v : V)
  | nili
  deriving Inhabited
inductive Obj where
  | cells (cs : List V)
  | map (es : List (V × V))
  deriving Inhabited
structure St where
  slots : List V
  objs : List (Option Obj)
inductive Loc where
  | slot (s : Nat)
  | obj (o : Nat)
  deriving DecidableEq, Repr
inductive Prog where
  | fail
  | ret
  | getS (s : Nat) (k : V → Prog)
  | setS (s : Nat) (v : V) (k : Prog)
  | getO (o : Nat) (k : Option Obj → Prog)
  | setO (o : Nat) (x : Option Obj) (k : Prog)
def St.slot (σ : St) (s : Nat) : V := σ.slots.getD s (.gone 0)
def St.obj (σ : St) (o : Nat) : Option Obj := σ.objs.getD o none
def St.setS (σ : St) (s : Nat) (v : V) : St := { σ with slots := σ.slots.set s v }
def St.setO (σ : St) (o : Nat) (x : Option Obj) : St := { σ with objs := σ.objs.set o x }
def Prog.run : Prog → St → Option St
  | .fail, _ => none
  | .ret, σ => some σ
  | .getS s k, σ => (k (σ.slot s)).run σ
  | .setS s v k, σ => k.run (σ.setS s v)
  | .getO o k, σ => (k (σ.obj o)).run σ
  | .setO o x k, σ => if o < σ.objs.length then k.run (σ.setO o x) else none
def V.cells : V → List V
  | .agg cs => cs
  | v => [v]
def V.leaves : V → List V
  | .agg cs => cs
  | .tup vs => vs.flatMap V.cells
  | v => [v]
def ofCells (isAgg : Bool) : List V → Option V
  | cs => if isAgg then some (.agg cs) else match cs with | [v] => some v | _ => none
def splice (cs : List V) (off : Nat) (vs : List V) : List V := cs.take off ++ vs ++ cs.drop (off + vs.length)
def V.setCells (e : V) (off : Nat) (vs : List V) : V :=
  match e with
  | .agg cs => .agg (splice cs off vs)
  | v => vs.headD v
def V.nextg : V → Nat
  | .xsl g _ _ => g + 1
  | .isl g _ _ => g + 1
  | .fsl g _ _ => g + 1
  | .gone g => g
  | _ => 0
def regen1 (old new : V) : Option V :=
  match new with
  | .xsl _ sz es => some (.xsl old.nextg sz es)
  | .isl _ sz es => some (.isl old.nextg sz es)
  | .fsl _ sz es => some (.fsl old.nextg sz es)
  | .gone _ => some (.gone old.nextg)
  | .nilS sz => if old.nextg = 0 then some (.nilS sz) else some (.xsl old.nextg sz [])
  | v => if old.nextg = 0 then some v else none
def regens : List V → List V → Option (List V)
  | olds, [] => if olds.all (fun v => v.nextg == 0) then some [] else none
  | [], n :: ns => do pure ((← regen1 (.gone 0) n) :: (← regens [] ns))
  | o :: os, n :: ns => do pure ((← regen1 o n) :: (← regens os ns))
def layTup : List V → List V → List V
  | [], _ => []
  | .agg cs :: vs, ls => .agg (ls.take cs.length) :: layTup vs (ls.drop cs.length)
  | v :: vs, ls => ls.headD v :: layTup vs (ls.drop 1)
def V.withLeaves (v : V) (ls : List V) : V :=
  match v with
  | .agg _ => .agg ls
  | .tup vs => .tup (layTup vs ls)
  | v => ls.headD v
def wipe1 : V → V
  | .xsl g _ _ => .gone (g + 1)
  | .fsl g _ _ => .gone (g + 1)
  | v => v
def V.wipe (v : V) : V := v.withLeaves (v.leaves.map wipe1)
def V.hasX (v : V) : Bool := v.leaves.any fun | .xsl .. => true | .fsl .. => true | _ => false
def V.plain : V → Bool
  | .bool _ | .int .. | .str _ | .nil | .nilf | .nilm | .nili | .nilS _ => true
  | _ => false
def borrow1 (h : Home) : V → V
  | .xsl g sz es => .srf h g sz 0 es.length
  | .fsl g sz es => .srf h g sz 0 es.length
  | .isl _ sz es => .isl 0 sz es
  | .gone _ => .gone 0
  | v => v
def borrows (mk : Nat → Home) : Nat → List V → List V
  | _, [] => []
  | i, v :: vs => borrow1 (mk i) v :: borrows mk (i + 1) vs
def V.borrow (mk : Nat → Home) (v : V) : V := v.withLeaves (borrows mk 0 v.leaves)
def gHome (h : Home) (k : V → Prog) : Prog :=
  match h with
  | .slot s off => .getS s fun v => match v.leaves[off]? with | some x => k x | none => .fail
  | .obj o off => .getO o fun
      | some (.cells cs) => (match cs[off]? with | some x => k x | none => .fail)
      | _ => .fail
def sHome (h : Home) (x : V) (k : Prog) : Prog :=
  match h with
  | .slot s off => .getS s fun v => if off < v.leaves.length then .setS s (v.withLeaves (v.leaves.set off x)) k else .fail
  | .obj o off => .getO o fun
      | some (.cells cs) => if off < cs.length then .setO o (some (.cells (cs.set off x))) k else .fail
      | _ => .fail
def gElems (h : Home) (g sz : Nat) (k : Bool → List V → Prog) : Prog :=
  gHome h fun
    | .xsl g' sz' es => if g' = g ∧ sz' = sz then k true es else .fail
    | .isl g' sz' es => if g' = g ∧ sz' = sz then k false es else .fail
    | .fsl g' sz' es => if g' = g ∧ sz' = sz then k false es else .fail
    | _ => .fail
def gCells (r : Ref) (n : Nat) (k : List V → Prog) : Prog :=
  match r with
  | .obj o off => .getO o fun
      | some (.cells cs) => if off + n ≤ cs.length then k (borrows (fun i => .obj o (off + i)) 0 ((cs.drop off).take n)) else .fail
      | _ => .fail
  | .elem h g sz i off => gElems h g sz fun _ es => match es[i]? with
      | some e => if off + n ≤ e.cells.length then k ((e.cells.drop off).take n) else .fail
      | none => .fail
def sCells (r : Ref) (vs : List V) (k : Prog) : Prog :=
  match r with
  | .obj o off => .getO o fun
      | some (.cells cs) =>
        if off + vs.length ≤ cs.length then
          match regens ((cs.drop off).take vs.length) vs with
          | some ns => .setO o (some (.cells (splice cs off ns))) k
          | none => .fail
        else .fail
      | _ => .fail
  | .elem h g sz i off => gElems h g sz fun own es => match own, es[i]? with
      | true, some e => if off + vs.length ≤ e.cells.length then sHome h (.xsl g sz (es.set i (e.setCells off vs))) k else .fail
      | _, _ => .fail
def gView (v : V) (k : Nat → List V → Prog) : Prog :=
  match v with
  | .isl _ sz es | .xsl _ sz es | .fsl _ sz es | .csl sz es => k sz es
  | .nilS sz => k sz []
  | .srf h g sz off len => gElems h g sz fun _ es => if off + len ≤ es.length then k sz ((es.drop off).take len) else .fail
  | .asl r len => gCells r len fun cs => if cs.all V.plain then k 1 cs else .fail
  | _ => .fail
inductive Opd where
  | tmp (t : Nat)
  | val (v : V)
  deriving Inhabited
def gOpd : Opd → (V → Prog) → Prog
  | .tmp t, k => .getS t k
  | .val v, k => k v
def put (d : Nat) (v : V) (k : Prog) : Prog :=
  .getS d fun old => match regens old.leaves v.leaves with
    | some ls => .setS d (v.withLeaves ls) k
    | none => .fail
def putO (d : Option Nat) (v : V) (k : Prog) : Prog := match d with | some d => put d v k | none => k
def drain (x : Opd) (k : Prog) : Prog :=
  match x with
  | .tmp t => .getS t fun v => if v.hasX then .setS t v.wipe k else k
  | .val _ => k
def settle1 (h : Option Home) (v : V) (k : V → Prog) : Prog :=
  match v with
  | .srf h' g sz off len => gHome h' fun
      | .xsl g' sz' es =>
        if g' = g ∧ sz' = sz ∧ off + len ≤ es.length then
          if h = some h' then sHome h' (.gone (g + 1)) (k (.xsl 0 sz ((es.drop off).take len)))
          else sHome h' (.fsl g sz es) (k (.isl 0 sz ((es.drop off).take len)))
        else .fail
      | .fsl g' sz' es =>
        if g' = g ∧ sz' = sz ∧ off + len ≤ es.length then
          if h = some h' then sHome h' (.gone (g + 1)) (k (if off + len = es.length then .fsl 0 sz ((es.drop off).take len) else .isl 0 sz ((es.drop off).take len)))
          else k (.isl 0 sz ((es.drop off).take len))
        else .fail
      | .isl g' sz' es => if g' = g ∧ sz' = sz ∧ off + len ≤ es.length then k (.isl 0 sz ((es.drop off).take len)) else .fail
      | _ => .fail
  | .csl sz es => k (.isl 0 sz es)
  | v => k v
def settle (mk : Nat → Option Home) : Nat → List V → (List V → Prog) → Prog
  | _, [], k => k []
  | i, v :: vs, k => settle1 (mk i) v fun v' => settle mk (i + 1) vs fun vs' => k (v' :: vs')
def V.inObj : V → Bool
  | .ptr (.elem ..) | .iptr _ | .asl .. | .srf .. | .csl .. | .agg _ | .tup _ | .nilS _ => false
  | .iface _ v => v.plain
  | _ => true
def V.inElem : V → Bool
  | .bool _ | .int .. | .str _ | .isl .. | .nil | .nilf | .nilm | .nili => true
  | .iface _ v => v.plain
  | _ => false
def freeze1 : V → V
  | .xsl _ sz es => .isl 0 sz es
  | .fsl _ sz es => .isl 0 sz es
  | .isl _ sz es => .isl 0 sz es
  | .nilS sz => .isl 0 sz []
  | v => v
def obj1 : V → V
  | .nilS sz => .xsl 0 sz []
  | v => v
def gImm (x : Opd) (k : V → Prog) : Prog :=
  gOpd x fun v =>
    if v.plain then k (freeze1 v) else
    drain x <| settle (fun _ => none) 0 v.leaves fun ls =>
      let ls := ls.map freeze1
      if ls.all V.inElem then k (v.withLeaves ls) else .fail
def keep1 (h : Option Home) (v : V) (k : V → Prog) : Prog :=
  match v with
  | .srf h' g sz off len => if h = some h' then settle1 h (.srf h' g sz off len) k else k (.srf h' g sz off len)
  | v => k v
def keeps (mk : Nat → Option Home) : Nat → List V → (List V → Prog) → Prog
  | _, [], k => k []
  | i, v :: vs, k => keep1 (mk i) v fun v' => keeps mk (i + 1) vs fun vs' => k (v' :: vs')
def gKeep (mk : Nat → Option Home) (x : Opd) (k : V → Prog) : Prog :=
  gOpd x fun v =>
    if v.plain then k v else
    drain x <| keeps mk 0 v.leaves fun ls => k (v.withLeaves ls)
def gMove (mk : Nat → Option Home) (x : Opd) (k : V → Prog) : Prog :=
  gOpd x fun v =>
    if v.plain then k v else
    drain x <| settle mk 0 v.leaves fun ls => k (v.withLeaves ls)
end Go.Vq
namespace Go.Vq
inductive CK where
  | bool
  | int (k : IntKind)
  | str
  deriving DecidableEq, Repr, Inhabited
def eqv1 : CK → V → V → Option Bool
  | .bool, .bool a, .bool b => some (a == b)
  | .int k, .int k1 a, .int k2 b => if k1 = k ∧ k2 = k then some (a == b) else none
  | .str, .str a, .str b => some (a == b)
  | _, _, _ => none
def eqvs : List CK → List V → List V → Option Bool
  | [], [], [] => some true
  | k :: ks, a :: as, b :: bs => do let x ← eqv1 k a b; let y ← eqvs ks as bs; pure (x && y)
  | _, _, _ => none
inductive EqK where
  | num            -- numbers, texts
  | bool
  | ptr
  | func
  | map
  | slice
  | cells (ks : List CK)
  deriving DecidableEq, Repr, Inhabited
def eqV : EqK → V → V → Option Bool
  | .num, .int k a, .int k' b => if k = k' then some (a == b) else none
  | .num, .str a, .str b => some (a == b)
  | .bool, .bool a, .bool b => some (a == b)
  | .cells ks, .agg as, .agg bs => eqvs ks as bs
  | .ptr, .nil, .nil => some true
  | .ptr, .nil, .ptr _ | .ptr, .ptr _, .nil | .ptr, .nil, .iptr _ | .ptr, .iptr _, .nil => some false
  | .func, .nilf, .nilf => some true
  | .func, .nilf, .func .. | .func, .func .., .nilf => some false
  | .map, .nilm, .nilm => some true
  | .map, .nilm, .map _ | .map, .map _, .nilm => some false
  | _, _, _ => none
def bitsV (op : BinOp) (k : IntKind) (x y : Int) : Option Int :=
  let a := BitVec.ofInt k.bits x
  let b := BitVec.ofInt k.bits y
  match op with
  | .and => some (k.wrap (a &&& b).toNat)
  | .or => some (k.wrap (a ||| b).toNat)
  | .xor => some (k.wrap (a ^^^ b).toNat)
  | .andNot => some (k.wrap (a &&& ~~~b).toNat)
  | _ => none
def binV (op : BinOp) (x y : V) : Option V :=
  match op, x, y with
  | .shl, .int k a, .int _ b => if b < 0 then none else some (.int k (k.wrap (a * 2 ^ min b.toNat k.bits)))
  | .shr, .int k a, .int _ b => if b < 0 then none else some (.int k (a.fdiv (2 ^ min b.toNat k.bits)))
  | .add, .int k a, .int k' b => if k = k' then some (.int k (k.wrap (a + b))) else none
  | .sub, .int k a, .int k' b => if k = k' then some (.int k (k.wrap (a - b))) else none
  | .mul, .int k a, .int k' b => if k = k' then some (.int k (k.wrap (a * b))) else none
  | .quo, .int k a, .int k' b => if k = k' then (if b = 0 then none else some (.int k (k.wrap (a.tdiv b)))) else none
  | .rem, .int k a, .int k' b => if k = k' then (if b = 0 then none else some (.int k (a.tmod b))) else none
  | .lss, .int k a, .int k' b => if k = k' then some (.bool (a < b)) else none
  | .leq, .int k a, .int k' b => if k = k' then some (.bool (a ≤ b)) else none
  | .gtr, .int k a, .int k' b => if k = k' then some (.bool (a > b)) else none
  | .geq, .int k a, .int k' b => if k = k' then some (.bool (a ≥ b)) else none
  | .add, .str a, .str b => if a.length + b.length ≤ 2 ^ 62 then some (.str (a ++ b)) else none
  | .lss, .str a, .str b => some (.bool (Op.bytesLess a b))
  | .leq, .str a, .str b => some (.bool (Op.bytesLess a b || a == b))
  | .gtr, .str a, .str b => some (.bool !(Op.bytesLess a b || a == b))
  | .geq, .str a, .str b => some (.bool !(Op.bytesLess a b))
  | .and, .int k a, .int k' b => if k = k' then (bitsV .and k a b).map (.int k) else none
  | .or, .int k a, .int k' b => if k = k' then (bitsV .or k a b).map (.int k) else none
  | .xor, .int k a, .int k' b => if k = k' then (bitsV .xor k a b).map (.int k) else none
  | .andNot, .int k a, .int k' b => if k = k' then (bitsV .andNot k a b).map (.int k) else none
  | _, _, _ => none
def unV (op : UnOp) (x : V) : Option V :=
  match op, x with
  | .not, .bool b => some (.bool !b)
  | .neg, .int k n => some (.int k (k.wrap (0 - n)))
  | .xor, .int k n => (bitsV .xor k (if k.signed then -1 else k.max) n).map (.int k)
  | _, _ => none
inductive Cv where
  | int (k : IntKind)
  | same
  | bytes          -- string to []byte
  | text           -- []byte to string
  | rune           -- a number to a string
  | lit            -- a literal of bytes as itself
  deriving DecidableEq, Repr, Inhabited
def bytesV (s : List UInt8) : List V := s.map fun b => .int .u8 b.toNat
def textV : List V → Option (List UInt8)
  | [] => some []
  | .int .u8 n :: vs => (textV vs).map (UInt8.ofNat n.toNat :: ·)
  | _ :: _ => none
def maxFrom (k : IntKind) : Int → List V → Option V
  | a, [] => some (.int k a)
  | a, .int _ b :: vs => maxFrom k (if b > a then b else a) vs
  | _, _ => none
def minFrom (k : IntKind) : Int → List V → Option V
  | a, [] => some (.int k a)
  | a, .int _ b :: vs => minFrom k (if b < a then b else a) vs
  | _, _ => none
def maxV : List V → Option V
  | .int k a :: vs => maxFrom k a vs
  | _ => none
def minV : List V → Option V
  | .int k a :: vs => minFrom k a vs
  | _ => none
inductive TK where
  | arr (n : Nat)
  | str
  | slc (sz : Nat)
  | map
  deriving DecidableEq, Repr, Inhabited
def V.sz? : V → Option Nat
  | .isl _ sz _ | .xsl _ sz _ | .fsl _ sz _ | .csl sz _ | .nilS sz | .srf _ _ sz _ _ => some sz
  | .asl _ _ => some 1
  | _ => none
def TK.fits : TK → V → Bool
  | .str, .str _ => true
  | .slc sz, v => v.sz? == some sz
  | .map, .nilm | .map, .map _ => true
  | _, _ => false
inductive VOp where
  | move (x : Opd)
  | assign (x : Opd)
  | pick (c a b : Opd)
  | alloc (o : Nat) (zero : List V)
  | box (o n : Nat) (x : Opd)
  | ibox (o n : Nat) (x : Opd)
  | build (zero : List V) (parts : List (Nat × Nat × Opd))
  | buildSlice (sz : Nat) (zeros : List V) (parts : List (Nat × Opd))
  | load (agg : Bool) (n : Nat) (p : Opd)
  | store (n : Nat) (p x : Opd)
  | nilCheck (x : Opd)
  | bin (op : BinOp) (x y : Opd)
  | eq (neg : Bool) (k : EqK) (x y : Opd)
  | un (op : UnOp) (x : Opd)
  | conv (c : Cv) (x : Opd)
  | fieldAddr (off : Nat) (x : Opd)
  | field (off n : Nat) (agg : Bool) (x : Opd)
  | indexAddr (arr : Option Nat) (sz : Nat) (x i : Opd)
  | indexArr (len sz : Nat) (agg : Bool) (x i : Opd)
  | indexStr (x i : Opd)
  | extract (x : Opd) (i : Nat)
  | makeSlice (sz bytes : Nat) (zero : V) (l c : Opd)
  | slice (arr : TK) (x : Opd) (lo hi mx : Option Opd)
  | makeFunc (f : FuncId) (caps : List Opd)
  | iface (t : TypeId) (x : Opd)
  | call (ap : Bool) (f : FuncId) (site : Nat) (args : List Opd)
  | callv (ap : Bool) (x : Opd) (site : Nat) (args : List Opd)
  | callm (mv : Nat) (f : FuncId) (site : Nat) (args : List Opd)
  | calli (f : FuncId) (site : Nat) (args : List Opd)
  | cap (x : Opd)
  | appendZ (sz bytes : Nat) (zero : V) (s x : Opd)
  | len (arr : TK) (x : Opd)
  | append (sz bytes : Nat) (s x : Opd)
  | copy (sz : Nat) (d s : Opd)
  | max (xs : List Opd)
  | min (xs : List Opd)
  | stuck
  deriving Inhabited
def VOp.strip : VOp → VOp
  | .call _ f s as => .call false f s as
  | .callv _ x s as => .callv false x s as
  | .callm _ f s as => .call false f s as
  | .calli f s as => .call false f s as
  | .ibox o n x => .box o n x
  | v => v
inductive CallM where
  | lend
  | ap
  | mv (m : Nat)
  | ip
def CallM.op (m : CallM) (f : FuncId) (s : Nat) (as : List Opd) : VOp := match m with
  | .lend => .call false f s as
  | .ap => .call true f s as
  | .mv m => .callm m f s as
  | .ip => .calli f s as
structure VOper where
  dst : Option Nat
  op : VOp
  guard : Option (Nat × Bool)
  before : Nat
  deriving Inhabited
inductive VCode where
  | skip
  | region (ops : List VOper) (draw : Bool)
  | seq (a b : VCode)
  | cond (c : Opd) (thn els : VCode)
  | block (id : Nat) (keep : Option (List Nat)) (body : VCode)
  | loop (keep : Option (List Nat)) (body : VCode)
  | exit (id : Nat)
  | ret
  | range (x : Opd) (ps : List Nat) (site : Nat) (keep : Option (List Nat)) (assign body : VCode)
  | bad
  deriving Inhabited
def VOper.strip (o : VOper) : VOper := { o with op := o.op.strip }
def VCode.strip : VCode → VCode
  | .region ops d => .region (ops.map VOper.strip) d
  | .seq a b => .seq a.strip b.strip
  | .cond c a b => .cond c a.strip b.strip
  | .block i _ a => .block i none a.strip
  | .loop _ a => .loop none a.strip
  | .range x ps s _ a b => .range x ps s none a.strip b.strip
  | c => c
inductive VRes where
  | tmp (t : Nat)
  | cell (a : Nat) (agg : Bool) (n : Nat)
  deriving Inhabited
structure VFunc where
  nparams : Nat
  ntmps : Nat
  nsites : Nat
  results : List VRes
  body : VCode
  deriving Inhabited
def VFunc.strip (f : VFunc) : VFunc := { f with body := f.body.strip }
def V.objIds : V → List Nat
  | .ptr (.obj o _) => [o]
  | .ptr (.elem (.obj o _) ..) => [o]
  | .map o => [o]
  | .agg cs => idsIn cs
  | .tup cs => idsIn cs
  | .func _ cs => idsIn cs
  | .iface _ v => v.objIds
  | _ => []
  where idsIn : List V → List Nat
  | [] => []
  | v :: vs => v.objIds ++ idsIn vs
def reach : Nat → List Nat → List Nat → (List Nat → Prog) → Prog
  | _, [], acc, k => k acc
  | 0, _ :: _, _, _ => .fail
  | n + 1, o :: todo, acc, k =>
    if o ∈ acc then reach n todo acc k
    else .getO o fun
      | some (.cells cs) => reach n (todo ++ V.objIds.idsIn cs) (acc ++ [o]) k
      | _ => .fail
def findIdx (ids : List Nat) (o : Nat) : Option Nat := (ids.idxOf? o)
def Home.ren (f : Nat → Option Nat) : Home → Option Home
  | .obj o off => (f o).map (.obj · off)
  | .slot .. => none
def Ref.ren (f : Nat → Option Nat) : Ref → Option Ref
  | .obj o off => (f o).map (.obj · off)
  | .elem h _ sz i off => (h.ren f).map (.elem · 0 sz i off)
mutual
def V.ren (f : Nat → Option Nat) : V → Option V
  | .ptr r => (r.ren f).map .ptr
  | .map o => (f o).map .map
  | .agg cs => (rens f cs).map .agg
  | .tup cs => (rens f cs).map .tup
  | .func g cs => (rens f cs).map (.func g)
  | .srf .. | .asl .. => none
  | v => some v
def rens (f : Nat → Option Nat) : List V → Option (List V)
  | [] => some []
  | v :: vs => do pure ((← V.ren f v) :: (← rens f vs))
end
def zero1 : V → V
  | .xsl _ sz es => .xsl 0 sz es
  | .fsl _ sz es => .fsl 0 sz es
  | .isl _ sz es => .isl 0 sz es
  | .gone _ => .gone 0
  | v => v
def objRen (f : Nat → Option Nat) : Obj → Option Obj
  | .cells cs => (rens f (cs.map zero1)).map .cells
  | .map _ => none
def gThere (r : Ref) (k : Prog) : Prog :=
  match r with
  | .elem h g sz _ _ => gElems h g sz fun _ _ => k
  | .obj .. => k
def gThere1 (v : V) (k : Prog) : Prog :=
  match v with
  | .ptr r => gThere r k
  | _ => k
def gTheres : List V → Prog → Prog
  | [], k => k
  | v :: vs, k => gThere1 v (gTheres vs k)
def V.flat : V → Bool
  | .bool _ | .int .. | .str _ => true
  | _ => false
def pres0 (v : V) (k : V → Prog) : Prog :=
  match v with
  | .xsl _ sz es | .isl _ sz es | .fsl _ sz es | .csl sz es => k (.isl 0 sz es)
  | .nilS sz => k (.isl 0 sz [])
  | .srf h g sz off len => gElems h g sz fun _ es => if off + len ≤ es.length then k (.isl 0 sz ((es.drop off).take len)) else .fail
  | .asl r len => gCells r len fun cs => if cs.all V.flat then k (.isl 0 1 cs) else .fail
  | .func f caps => if V.objIds (.func f caps) = [] then k (.func f caps) else .fail
  | .ptr _ | .map _ | .agg _ | .tup _ => .fail
  | v => k v
def press0 : List V → (List V → Prog) → Prog
  | [], k => k []
  | v :: vs, k => pres0 v fun v' => press0 vs fun vs' => k (v' :: vs')
def pres1 (v : V) (k : V → Prog) : Prog :=
  match v with
  | .ptr (.obj o off) => .getO o fun
      | some (.cells cs) => press0 (cs.drop off) fun ls => if ls.all V.inElem then k (.iptr ls) else .fail
      | _ => .fail
  | v => pres0 v k
def press : List V → (List V → Prog) → Prog
  | [], k => k []
  | v :: vs, k => pres1 v fun v' => press vs fun vs' => k (v' :: vs')
def presArg (x : Opd) (k : V → Prog) : Prog :=
  gOpd x fun v => match v with
    | .tup _ => .fail
    | v => press v.leaves fun ls => k (v.withLeaves ls)
def presArgs : List Opd → (List V → Prog) → Prog
  | [], k => k []
  | x :: xs, k => presArg x fun v => presArgs xs fun vs => k (v :: vs)
def lendArg (x : Opd) (k : V → Prog) : Prog :=
  gOpd x fun v => match x, v with
    | _, .tup _ => .fail
    | .tmp t, v => settle (fun _ => none) 0 (borrows (.slot t) 0 v.leaves) fun ls => k (v.withLeaves (ls.map freeze1))
    | .val _, v => k (v.withLeaves (v.leaves.map freeze1))
def lendArgs : List Opd → (List V → Prog) → Prog
  | [], k => k []
  | x :: xs, k => lendArg x fun v => lendArgs xs fun vs => k (v :: vs)
def getObjs : List Nat → (List Obj → Prog) → Prog
  | [], k => k []
  | o :: os, k => .getO o fun | some (.cells cs) => getObjs os fun xs => k (.cells cs :: xs) | _ => .fail
mutual
def V.noslice : V → Bool
  | .bool _ | .int .. | .str _ | .nil | .nilf | .nilm | .nili | .nilS _ => true
  | .agg cs => noslices cs
  | .tup cs => noslices cs
  | .iface _ v => v.plain
  | _ => false
def noslices : List V → Bool
  | [] => true
  | v :: vs => v.noslice && noslices vs
end
def V.apart (v : V) : Bool := v.leaves.all fun | .xsl _ _ es | .fsl _ _ es => es.all V.noslice | v => v.noslice
def setObjs : List Nat → List Obj → Prog → Prog
  | [], [], k => k
  | o :: os, .cells ns :: xs, k => .getO o fun
      | some (.cells cs) => (match regens cs ns with
        | some ls => if ls.length = cs.length then .setO o (some (.cells ls)) (setObjs os xs k) else .fail
        | none => .fail)
      | _ => .fail
  | _, _, _ => .fail
def newObjs : Nat → List Obj → Prog → Prog
  | _, [], k => k
  | o, x :: xs, k => .getO o fun
      | none => .setO o (some x) (newObjs (o + 1) xs k)
      | some _ => .fail
def resRef (v : V) (k : V → Prog) : Prog :=
  match v with
  | .ptr (.elem h _ sz i off) => gHome h fun
      | .xsl g' _ _ | .isl g' _ _ | .fsl g' _ _ => k (.ptr (.elem h g' sz i off))
      | _ => .fail
  | v => k v
abbrev Callee := FuncId → List V → List Obj → Option (V × List Obj)
def newIds (first : Nat) : Nat → List Nat
  | 0 => []
  | n + 1 => first :: newIds (first + 1) n
def callP (callee : Callee) (ap : Bool) (f : FuncId) (first : Nat) (dst : Option Nat) (args : List Opd) (caps : List V) : Prog :=
  if ap then
    presArgs args fun vs =>
    if V.objIds.idsIn (vs ++ caps) = [] then
      match callee f (vs ++ caps) [] with
      | some (r, []) => if r.apart then putO dst r .ret else .fail
      | _ => .fail
    else .fail
  else
    lendArgs args fun vs =>
    gTheres ((vs ++ caps).flatMap V.leaves) <|
    reach 64 (V.objIds.idsIn (vs ++ caps)) [] fun ids =>
    getObjs ids fun os =>
    if ids.Nodup then
      match rens (findIdx ids) (vs ++ caps), os.mapM (objRen (findIdx ids)) with
      | some vs', some os' =>
        match callee f vs' os' with
        | some (r, os'') =>
          match r.ren ((ids ++ newIds first (os''.length - ids.length))[·]?), os''.mapM (objRen ((ids ++ newIds first (os''.length - ids.length))[·]?)) with
          | some r', some os3 =>
            if ¬ (ids ++ newIds first (os''.length - ids.length)).Nodup ∨ os''.length < ids.length then .fail else
            setObjs ids (os3.take ids.length) <| newObjs first (os3.drop ids.length) <| resRef r' fun r'' => putO dst r'' .ret
          | _, _ => .fail
        | none => .fail
      | _, _ => .fail
    else .fail
def srcHome (v : V) (i : Nat) : Option Home := match v.leaves[i]? with | some (.srf h ..) => some h | _ => none
def moveArg (x : Opd) (k : V → Prog) : Prog := gOpd x fun v => gMove (srcHome v) x k
def moveArgs : Nat → List Opd → (List V → Prog) → Prog
  | _, [], k => k []
  | mv, x :: xs, k => if mv % 2 = 1 then moveArg x fun v => moveArgs (mv / 2) xs fun vs => k (v :: vs) else lendArg x fun v => moveArgs (mv / 2) xs fun vs => k (v :: vs)
def callR (callee : Callee) (f : FuncId) (first : Nat) (dst : Option Nat) (vs : List V) : Prog :=
    gTheres (vs.flatMap V.leaves) <|
    reach 64 (V.objIds.idsIn vs) [] fun ids =>
    getObjs ids fun os =>
    if ids.Nodup then
      match rens (findIdx ids) vs, os.mapM (objRen (findIdx ids)) with
      | some vs', some os' =>
        match callee f vs' os' with
        | some (r, os'') =>
          match r.ren ((ids ++ newIds first (os''.length - ids.length))[·]?), os''.mapM (objRen ((ids ++ newIds first (os''.length - ids.length))[·]?)) with
          | some r', some os3 =>
            if ¬ (ids ++ newIds first (os''.length - ids.length)).Nodup ∨ os''.length < ids.length then .fail else
            setObjs ids (os3.take ids.length) <| newObjs first (os3.drop ids.length) <| resRef r' fun r'' => putO dst r'' .ret
          | _, _ => .fail
        | none => .fail
      | _, _ => .fail
    else .fail
def calliP (callee : Callee) (f : FuncId) (d : Option Nat) (args : List Opd) : Prog :=
  match args with
  | [x] => gOpd x fun
      | .srf h g sz off len => gElems h g sz fun own es =>
          if own = true ∧ off = 0 ∧ len = es.length ∧ es.length ≤ 140737488355328 then
            match callee f [.isl 0 sz es] [] with
            | some (.isl _ sz' fs, [.map _]) =>
              if sz' = sz ∧ fs.length = es.length then
                if es.length = 0 then putO d (.tup []) .ret else sHome h (.xsl g sz fs) (putO d (.tup []) .ret)
              else .fail
            | _ => .fail
          else .fail
      | .nilS sz => match callee f [.isl 0 sz []] [] with
          | some (.isl .., [.map _]) => putO d (.tup []) .ret
          | _ => .fail
      | _ => .fail
  | _ => .fail
def V.here : V → Bool
  | .gone _ | .tup _ => false
  | .agg cs => cs.all fun | .gone _ => false | _ => true
  | _ => true
def gInt (x : Opd) (k : Int → Prog) : Prog := gOpd x fun | .int _ n => k n | _ => .fail
def gBool (x : Opd) (k : Bool → Prog) : Prog := gOpd x fun | .bool b => k b | _ => .fail
def gOpds : List Opd → (List V → Prog) → Prog
  | [], k => k []
  | x :: xs, k => gOpd x fun v => gOpds xs fun vs => k (v :: vs)
def optV (o : Option V) (k : V → Prog) : Prog := match o with | some v => k v | none => .fail
def ptrOff (off : Nat) : V → Option V
  | .ptr (.obj o a) => some (.ptr (.obj o (a + off)))
  | .ptr (.elem h g sz i a) => some (.ptr (.elem h g sz i (a + off)))
  | .iptr cs => some (.iptr (cs.drop off))
  | _ => none
def buildP (d : Option Nat) : List (Nat × Nat × Opd) → List V → Prog
  | [], cs => putO d (.agg cs) .ret
  | (off, n, x) :: ps, cs =>
    gMove (fun i => d.map fun d => .slot d (off + i)) x fun v =>
      if v.cells.length = n ∧ off + n ≤ cs.length ∧ v.here = true then buildP d ps (splice cs off v.cells) else .fail
def buildSliceP (d : Option Nat) (sz : Nat) : List (Nat × Opd) → List V → Prog
  | [], es => putO d (.xsl 0 sz es) .ret
  | (i, x) :: ps, es => gImm x fun v => if v.cells.length = sz ∧ i < es.length ∧ v.here = true then buildSliceP d sz ps (es.set i v) else .fail
def gOptInt : Option Opd → Int → (Int → Prog) → Prog
  | none, n, k => k n
  | some x, _, k => gInt x k
def subV (d : Option Nat) (x : Opd) (v : V) (l h : Nat) (capped : Bool) : Prog :=
  match v, capped with
  | .str s, false => putO d (.str ((s.drop l).take (h - l))) .ret
  | .srf hm g sz off _, false => putO d (.srf hm g sz (off + l) (h - l)) .ret
  | .srf hm g sz off _, true => settle1 none (.srf hm g sz (off + l) (h - l)) fun
      | .isl _ sz es => putO d (.csl sz es) .ret
      | _ => .fail
  | .nilS sz, false => putO d (.nilS sz) .ret
  | .isl _ sz es, false => putO d (.isl 0 sz ((es.drop l).take (h - l))) .ret
  | .isl _ sz es, true => putO d (.csl sz ((es.drop l).take (h - l))) .ret
  | .csl sz es, false => putO d (.isl 0 sz ((es.drop l).take (h - l))) .ret
  | .asl (.obj o a) len, false => if l < len then putO d (.asl (.obj o (a + l)) (h - l)) .ret else putO d (.isl 0 1 []) .ret
  | .asl (.elem hm g sz i a) len, false => if l < len then putO d (.asl (.elem hm g sz i (a + l)) (h - l)) .ret else putO d (.isl 0 1 []) .ret
  | .xsl _ sz es, false => drain x (putO d (.xsl 0 sz ((es.drop l).take (h - l))) .ret)
  | .fsl _ sz es, false => putO d (.isl 0 sz ((es.drop l).take (h - l))) .ret
  | _, _ => .fail
def lenV (v : V) (k : Nat → Prog) : Prog :=
  match v with
  | .str s => k s.length
  | .isl _ _ es | .xsl _ _ es | .fsl _ _ es | .csl _ es => k es.length
  | .nilS _ => k 0
  | .srf _ _ _ _ len => k len
  | .asl _ len => k len
  | .nilm => k 0
  | _ => .fail
def opProg (callee : Callee) (base : Nat) (d : Option Nat) : VOp → Prog
  | .stuck => .fail
  | .move x => gOpd x fun v =>
      if v.plain then putO d v .ret else
      match v, x with
      | .tup vs, x => drain x (putO d (.tup vs) .ret)
      | v, .tmp t => putO d (v.borrow (.slot t)) .ret
      | v, .val _ => putO d v .ret
  | .assign x => gKeep (fun i => d.map (.slot · i)) x fun v => putO d v .ret
  | .pick c a b => gBool c fun p => gOpd (if p then a else b) fun v => if v.plain then putO d v .ret else .fail
  | .alloc o zero => .getO (base + o) fun | none => .setO (base + o) (some (.cells zero)) (putO d (.ptr (.obj (base + o) 0)) .ret) | some _ => .fail
  | .box o n x => gMove (fun i => some (.obj (base + o) i)) x fun v =>
      .getO (base + o) fun
        | none => (match regens [] (v.cells.map obj1) with
          | some cs => if cs.all V.inObj ∧ cs.length = n ∧ v.here = true then .setO (base + o) (some (.cells cs)) (putO d (.ptr (.obj (base + o) 0)) .ret) else .fail
          | none => .fail)
        | some _ => .fail
  | .ibox _ n x => gImm x fun v => if v.here = true ∧ v.cells.length = n then putO d (.iptr v.cells) .ret else .fail
  | .build zero parts => buildP d parts zero
  | .buildSlice sz zeros parts => buildSliceP d sz parts zeros
  | .load agg n p => gOpd p fun
      | .ptr r => gCells r n fun cs => optV (ofCells agg cs) fun v => putO d v .ret
      | .iptr cs => if n ≤ cs.length then optV (ofCells agg (cs.take n)) fun v => putO d v .ret else .fail
      | _ => .fail
  | .store n p x => gOpd p fun
      | .ptr (.obj o off) => gMove (fun i => some (.obj o (off + i))) x fun v =>
          if v.cells.length = n ∧ (v.cells.map obj1).all V.inObj ∧ v.here = true then sCells (.obj o off) (v.cells.map obj1) .ret else .fail
      | .ptr (.elem h g sz i off) => gImm x fun v => if v.cells.length = n ∧ v.here = true then sCells (.elem h g sz i off) v.cells .ret else .fail
      | _ => .fail
  | .nilCheck x => gOpd x fun
      | .ptr r => putO d (.ptr r) .ret
      | .iptr cs => putO d (.iptr cs) .ret
      | .func f cs => putO d (.func f cs) .ret
      | _ => .fail
  | .bin op x y => gOpd x fun a => gOpd y fun b => optV (binV op a b) fun v => putO d v .ret
  | .eq neg .slice x y => gOpd x fun a => gOpd y fun
      | .nilS _ => gView a fun _ es => (match es with | _ :: _ => putO d (.bool neg) .ret | [] => .fail)
      | _ => .fail
  | .eq neg k x y => gOpd x fun a => gOpd y fun b => optV ((eqV k a b).map fun r => .bool (if neg then !r else r)) fun v => putO d v .ret
  | .un op x => gOpd x fun a => optV (unV op a) fun v => putO d v .ret
  | .conv c x => gOpd x fun a => match c, a with
      | .int k, .int _ n => putO d (.int k (k.wrap n)) .ret
      | .same, .str s => putO d (.str s) .ret
      | .bytes, .str s => putO d (.xsl 0 1 (bytesV s)) .ret
      | .text, a => gView a fun _ es => match textV es with | some s => putO d (.str s) .ret | none => .fail
      | .rune, .int _ n => putO d (.str (Utf8.encode n).toList) .ret
      | .lit, .xsl _ sz (e :: es) => drain x (putO d (.xsl 0 sz (e :: es)) .ret)
      | _, _ => .fail
  | .fieldAddr off x => gOpd x fun v => optV (ptrOff off v) fun v => putO d v .ret
  | .field off n agg x => gOpd x fun
      | .agg cs => if off + n ≤ cs.length then
          match x with
          | .tmp t => optV (ofCells agg (borrows (fun i => .slot t (off + i)) 0 ((cs.drop off).take n))) fun v => putO d v .ret
          | .val _ => optV (ofCells agg ((cs.drop off).take n)) fun v => putO d v .ret
        else .fail
      | _ => .fail
  | .indexAddr arr sz x i => gInt i fun i => gOpd x fun v =>
      match arr, v with
      | some len, v => if 0 ≤ i ∧ i < len then optV (ptrOff (i.toNat * sz) v) fun v => putO d v .ret else .fail
      | none, .isl _ sz' es => if 0 ≤ i ∧ sz' = sz then (match es[i.toNat]? with | some e => putO d (.iptr e.cells) .ret | none => .fail) else .fail
      | none, .fsl _ sz' es => if 0 ≤ i ∧ sz' = sz then (match es[i.toNat]? with | some e => putO d (.iptr e.cells) .ret | none => .fail) else .fail
      | none, .csl sz' es => if 0 ≤ i ∧ sz' = sz then (match es[i.toNat]? with | some e => putO d (.iptr e.cells) .ret | none => .fail) else .fail
      | none, .srf h g sz' off len => if 0 ≤ i ∧ i < len ∧ sz' = sz then putO d (.ptr (.elem h g sz (off + i.toNat) 0)) .ret else .fail
      | none, .xsl g sz' es => (match x with
          | .tmp t => if 0 ≤ i ∧ i < es.length ∧ sz' = sz then putO d (.ptr (.elem (.slot t 0) g sz i.toNat 0)) .ret else .fail
          | .val _ => .fail)
      | none, .asl r len => if 0 ≤ i ∧ i < len ∧ sz = 1 then optV (ptrOff i.toNat (.ptr r)) fun v => putO d v .ret else .fail
      | _, _ => .fail
  | .indexArr len sz agg x i => gInt i fun i => gOpd x fun
      | .agg cs => if 0 ≤ i ∧ i < len ∧ i.toNat * sz + sz ≤ cs.length ∧ cs.all V.plain then
          optV (ofCells agg ((cs.drop (i.toNat * sz)).take sz)) fun v => putO d v .ret else .fail
      | _ => .fail
  | .indexStr x i => gInt i fun i => gOpd x fun
      | .str s => if 0 ≤ i then (match s[i.toNat]? with | some b => putO d (.int .u8 b.toNat) .ret | none => .fail) else .fail
      | _ => .fail
  | .extract x i => gOpd x fun
      | .tup vs => (match vs[i]? with
          | some v =>
            if v.plain then putO d v .ret else
            match x with
            | .tmp t => .setS t (.tup (vs.set i v.wipe)) (putO d v .ret)
            | .val _ => .fail
          | none => .fail)
      | _ => .fail
  | .makeSlice sz bytes zero l c => gInt l fun l => gInt c fun c =>
      if 0 ≤ l ∧ l ≤ c ∧ c * bytes ≤ 140737488355328 ∧ c < 9223372036854775808 then putO d (.xsl 0 sz (List.replicate l.toNat zero)) .ret else .fail
  | .slice arr x lo hi mx => gOpd x fun v =>
      match arr, v with
      | .arr n, .ptr r => gThere r <| gOptInt lo 0 fun l => gOptInt hi n fun h =>
          if 0 ≤ l ∧ l ≤ h ∧ h ≤ n ∧ mx.isNone then subV d x (.asl r n) l.toNat h.toNat false else .fail
      | .arr n, .iptr cs => gOptInt lo 0 fun l => gOptInt hi n fun h =>
          if 0 ≤ l ∧ l ≤ h ∧ h ≤ n ∧ mx.isNone ∧ n ≤ cs.length then putO d (.isl 0 1 (((cs.take n).drop l.toNat).take (h.toNat - l.toNat))) .ret else .fail
      | .arr _, _ => .fail
      | k, v => if !k.fits v then .fail else lenV v fun n => gOptInt lo 0 fun l => gOptInt hi n fun h =>
          if 0 ≤ l ∧ l ≤ h ∧ h ≤ n then
            match mx with
            | none => subV d x v l.toNat h.toNat false
            | some m => gInt m fun m => if m = h then subV d x v l.toNat h.toNat true else .fail
          else .fail
  | .makeFunc f caps => gMoves caps fun vs => putO d (.func f vs) .ret
  | .iface t x => gOpd x fun v => if v.plain then putO d (.iface t v) .ret else .fail
  | .call ap f site args => callP callee ap f (base + site) d args []
  | .callv ap x site args => gOpd x fun
      | .func f caps => callP callee ap f (base + site) d args caps
      | _ => .fail
  | .callm mv f site args => moveArgs mv args fun vs => callR callee f (base + site) d vs
  | .calli f _ args => calliP callee f d args
  | .cap x => gOpd x fun
      | .nilS _ => putO d (.int .i64 0) .ret
      | .csl _ es => putO d (.int .i64 es.length) .ret
      | _ => .fail
  | .len k x => match k with
      | .arr n => putO d (.int .i64 n) .ret
      | k => gOpd x fun v => if k.fits v then lenV v fun n => putO d (.int .i64 n) .ret else .fail
  | .append sz bytes s x => gOpd x fun xv =>
      (match xv with
       | .str b => fun (k : List V → Prog) => if sz = 1 then k (bytesV b) else .fail
       | xv => fun k => gView xv fun sz' xs => if sz' = sz then k xs else .fail) fun xs =>
      gOpd s fun sv =>
      match sv with
      | .srf h g sz' off len => settle1 (some h) (.srf h g sz' off len) fun
          | .xsl _ sz'' es => if sz'' = sz ∧ (es.length + xs.length) * bytes ≤ 140737488355328 then putO d (.xsl 0 sz (es ++ xs)) .ret else .fail
          | .fsl _ sz'' es => if sz'' = sz ∧ (es.length + xs.length) * bytes ≤ 140737488355328 then putO d (.fsl 0 sz (es ++ xs)) .ret else .fail
          | _ => .fail
      | .xsl _ sz' es =>
          if sz' = sz ∧ (es.length + xs.length) * bytes ≤ 140737488355328 then drain s (putO d (.xsl 0 sz (es ++ xs)) .ret) else .fail
      | .fsl _ sz' es =>
          if sz' = sz ∧ (es.length + xs.length) * bytes ≤ 140737488355328 then drain s (putO d (.fsl 0 sz (es ++ xs)) .ret) else .fail
      | .nilS sz' => if sz' = sz ∧ xs.length * bytes ≤ 140737488355328 then putO d (.xsl 0 sz xs) .ret else .fail
      | .csl sz' es =>
          if sz' = sz ∧ 0 < xs.length ∧ (es.length + xs.length) * bytes ≤ 140737488355328 then putO d (.xsl 0 sz (es ++ xs)) .ret else .fail
      | _ => .fail
  | .appendZ sz bytes zero s x => gInt x fun m => gOpd s fun
      | .nilS sz' => if sz' = sz ∧ 0 < m ∧ m * bytes ≤ 140737488355328 ∧ m < 9223372036854775808 then putO d (.xsl 0 sz (List.replicate m.toNat zero)) .ret else .fail
      | _ => .fail
  | .copy sz0 dd s => gOpd s fun sv =>
      (match sv with
       | .str b => fun (k : List V → Prog) => if sz0 = 1 then k (bytesV b) else .fail
       | sv => fun k => gView sv fun sz' xs => if sz' = sz0 then k xs else .fail) fun xs =>
      gOpd dd fun dv =>
      if dv.sz? ≠ some sz0 then .fail else
      match dv with
      | .asl r len =>
          if Nat.min xs.length len = 0 then putO d (.int .i64 0) .ret else
          if (xs.take (Nat.min xs.length len)).all V.flat then sCells r (xs.take (Nat.min xs.length len)) (putO d (.int .i64 (Nat.min xs.length len)) .ret) else .fail
      | .srf h g sz off len =>
          if Nat.min xs.length len = 0 then putO d (.int .i64 0) .ret else
          gElems h g sz fun own es =>
          if own = true ∧ off + len ≤ es.length then sHome h (.xsl g sz (splice es off (xs.take (Nat.min xs.length len)))) (putO d (.int .i64 (Nat.min xs.length len)) .ret) else .fail
      | _ => .fail
  | .max xs => gOpds xs fun vs => optV (maxV vs) fun v => putO d v .ret
  | .min xs => gOpds xs fun vs => optV (minV vs) fun v => putO d v .ret
  where gMoves : List Opd → (List V → Prog) → Prog
  | [], k => k []
  | x :: xs, k => gOpd x fun v =>
      (match v with
       | .ptr (.obj ..) | .func .. | .map _ | .iptr _ => fun (k : V → Prog) => k v
       | _ => fun k => gImm x fun v => if v.here then k v else .fail) fun v => gMoves xs fun vs => k (v :: vs)
end Go.Vq
namespace Go.Vq
inductive Out where
  | normal
  | exit (id : Nat)
  | ret
  deriving DecidableEq, Repr, Inhabited
def skipP (d : Option Nat) : Prog := putO d (.tup []) .ret
def VOper.prog (callee : Callee) (base : Nat) (o : VOper) : Prog :=
  match o.guard with
  | none => opProg callee base o.dst o.op
  | some (s, want) => .getS s fun
      | .bool b => if b == want then opProg callee base o.dst o.op else skipP o.dst
      | .tup [] => skipP o.dst
      | _ => .fail
def runOps (callee : Callee) (base : Nat) : List VOper → St → Option St
  | [], σ => some σ
  | o :: os, σ => match (o.prog callee base).run σ with
    | some σ' => runOps callee base os σ'
    | none => none
def Prog.foot : Prog → St → List Loc × List Loc
  | .fail, _ => ([], [])
  | .ret, _ => ([], [])
  | .getS s k, σ => let r := (k (σ.slot s)).foot σ; (.slot s :: r.1, r.2)
  | .setS s v k, σ => let r := k.foot (σ.setS s v); (r.1, .slot s :: r.2)
  | .getO o k, σ => let r := (k (σ.obj o)).foot σ; (.obj o :: r.1, r.2)
  | .setO o x k, σ => let r := k.foot (σ.setO o x); (r.1, .obj o :: r.2)
def clash (a b : List Loc × List Loc) : Bool :=
  a.2.any (fun l => b.1.contains l || b.2.contains l) || b.2.any (fun l => a.1.contains l)
def clashes (before : Nat) (f : List Loc × List Loc) : Nat → List (List Loc × List Loc) → Bool
  | _, [] => false
  | i, g :: gs => (!before.testBit i && clash g f) || clashes before f (i + 1) gs
def runDraw (callee : Callee) (base : Nat) : List VOper → List (List Loc × List Loc) → St → Option St
  | [], _, σ => some σ
  | o :: os, done, σ =>
    let f := (o.prog callee base).foot σ
    if clashes o.before f 0 done then none else
    match (o.prog callee base).run σ with
    | some σ' => runDraw callee base os (done ++ [f]) σ'
    | none => none
def V.roots (v : V) : List Nat := v.leaves.flatMap fun
  | .ptr (.obj o _) => [o]
  | .ptr (.elem (.obj o _) ..) => [o]
  | .srf (.obj o _) .. => [o]
  | .asl (.obj o _) _ => [o]
  | .asl (.elem (.obj o _) ..) _ => [o]
  | .map o => [o]
  | .func f cs => V.objIds (.func f cs)
  | _ => []
def homeOk (keep : List Nat) (ids : List Nat) (σ : St) (h : Home) (g : Nat) : Bool :=
  let at_ (v : Option V) : Bool := match v with | some (.xsl g' _ _) | some (.isl g' _ _) | some (.fsl g' _ _) => g' == g | _ => false
  match h with
  | .slot s off => keep.contains s && at_ (σ.slot s).leaves[off]?
  | .obj o off => ids.contains o && match σ.obj o with
    | some (.cells cs) => at_ cs[off]?
    | _ => false
def reb1 (keep : List Nat) (ids : List Nat) (σ : St) : V → V
  | .srf h g sz off len => if homeOk keep ids σ h g then .srf h 0 sz off len else .gone 0
  | .ptr (.elem h g sz i off) => if homeOk keep ids σ h g then .ptr (.elem h 0 sz i off) else .gone 0
  | .asl (.elem h g sz i off) len => if homeOk keep ids σ h g then .asl (.elem h 0 sz i off) len else .gone 0
  | .ptr (.obj o off) => if ids.contains o then .ptr (.obj o off) else .gone 0
  | .asl (.obj o off) len => if ids.contains o then .asl (.obj o off) len else .gone 0
  | .map o => if ids.contains o then .map o else .gone 0
  | .func f cs => if (V.objIds (.func f cs)).all ids.contains then .func f cs else .gone 0
  | .xsl _ sz es => .xsl 0 sz es
  | .isl _ sz es => .isl 0 sz es
  | .fsl _ sz es => .fsl 0 sz es
  | .gone _ => .gone 0
  | .nilS sz => .xsl 0 sz []
  | v => v
def rebSlots (keep : List Nat) (ids : List Nat) (σ : St) : Nat → List V → List V
  | _, [] => []
  | i, v :: vs => (if keep.contains i then v.withLeaves (v.leaves.map (reb1 keep ids σ)) else .gone 0) :: rebSlots keep ids σ (i + 1) vs
def rebObj (keep : List Nat) (ids : List Nat) (σ : St) : Option Obj → Option Obj
  | some (.cells cs) => some (.cells (cs.map (reb1 keep ids σ)))
  | x => x
def keptObjs (keep : List Nat) (σ : St) (base : Nat) : List Nat :=
  let first := List.range base ++ keep.flatMap fun s => (σ.slot s).roots
  let more (l : List Nat) : List Nat := (l ++ l.flatMap fun o => match σ.obj o with
    | some (.cells cs) => V.roots (.agg cs)
    | _ => []).eraseDups
  more (more (more first))
def rebase (keep : List Nat) (base : Nat) (σ : St) : St :=
  let ids := keptObjs keep σ base
  { slots := rebSlots keep ids σ 0 σ.slots, objs := σ.objs.mapIdx fun i x => if ids.contains i then rebObj keep ids σ x else none }
def rebase? (keep : Option (List Nat)) (base : Nat) (σ : St) : St :=
  match keep with
  | some keep => rebase keep base σ
  | none => σ
def condV (c : Opd) (σ : St) : Option Bool :=
  match c with
  | .tmp t => match σ.slot t with | .bool b => some b | _ => none
  | .val (.bool b) => some b
  | .val _ => none
abbrev Iter := List (List V) → Option (Nat × List (List V))
def boxesOf : List V → Option (List (List V))
  | [] => some []
  | .iptr vs :: cs => (boxesOf cs).map (vs :: ·)
  | _ :: _ => none
def stab1 (ids : List Nat) : V → V
  | .srf .. | .xsl .. | .fsl .. | .asl .. | .gone _ | .ptr (.elem ..) => .gone 0
  | .isl _ sz es => .isl 0 sz es
  | .ptr (.obj o off) => if ids.contains o then .ptr (.obj o off) else .gone 0
  | .map o => if ids.contains o then .map o else .gone 0
  | .func f cs => if (V.objIds (.func f cs)).all ids.contains then .func f cs else .gone 0
  | v => v
def stabSlots (keep : Option (List Nat)) (ids : List Nat) : Nat → List V → List V
  | _, [] => []
  | i, v :: vs => (if (keep.getD []).contains i || keep.isNone then v.withLeaves (v.leaves.map (stab1 ids)) else .gone 0) :: stabSlots keep ids (i + 1) vs
def idsBut (m : Nat) (σ : St) : List Nat := (List.range m).filter fun o => (σ.obj o).isSome
def rangeSt (keep : Option (List Nat)) (m : Nat) (slots : List V) (σ : St) : St :=
  let ids := idsBut m σ
  { slots := stabSlots keep ids 0 slots, objs := σ.objs.mapIdx fun i x => if ids.contains i then rebObj [] ids σ x else none }
def setPs (ps : List Nat) (x : List V) (σ : St) : St := { σ with slots := (ps.zip x).foldl (fun s p => s.set p.1 p.2) σ.slots }
def rounds (one : List V → St → Option (Out × St)) (next : St → St) : List (List V) → St → Option (Out × St)
  | [], σ => some (.normal, σ)
  | x :: xs, σ => match one x σ with
    | some (.normal, σ') => rounds one next xs (next σ')
    | some (o, σ') => some (o, next σ')
    | none => none
def rangeGo (its : FuncId → Iter) (base site np : Nat) (keep : Option (List Nat)) (v : V) (σ : St) (one : List V → St → Option (Out × St)) : Option (Out × St) :=
  match v with
  | .func g caps => match boxesOf caps with
    | some bs => match its g bs with
      | some (ar, xs) => if ar = np then let σ0 := rangeSt keep (base + site) σ.slots σ; rounds one (rangeSt none (base + site) σ0.slots) xs σ0 else none
      | none => none
    | none => none
  | _ => none
def opdV (x : Opd) (σ : St) : V := match x with | .tmp t => σ.slot t | .val _ => .nil
def step (callee : Callee) (its : FuncId → Iter) (again : Nat → VCode → St → Option (Out × St)) : Nat → VCode → St → Option (Out × St)
  | _, .skip, σ => some (.normal, σ)
  | base, .region ops draw, σ => (if draw then runDraw callee base ops [] σ else runOps callee base ops σ).map fun σ' => (.normal, σ')
  | base, .seq a b, σ => match step callee its again base a σ with
    | some (.normal, σ') => step callee its again base b σ'
    | r => r
  | base, .cond c a b, σ => match condV c σ with
    | some true => step callee its again base a σ
    | some false => step callee its again base b σ
    | none => none
  | base, .block id keep a, σ => match step callee its again base a σ with
    | some (.exit id', σ') => if id' = id then some (.normal, rebase? keep base σ') else some (.exit id', σ')
    | some (.normal, σ') => some (.normal, rebase? keep base σ')
    | r => r
  | base, .loop keep a, σ => match step callee its again base a (rebase? keep base σ) with
    | some (.normal, σ') => again base (.loop keep a) σ'
    | r => r
  | _, .exit id, σ => some (.exit id, σ)
  | _, .ret, σ => some (.ret, σ)
  | base, .range x ps site keep a b, σ => rangeGo its base site ps.length keep (opdV x σ) σ fun y σ1 => match step callee its again (base + site) a (setPs ps y σ1) with
    | some (.normal, σ2) => step callee its again (base + site) b σ2
    | _ => none
  | _, .bad, _ => none
def res1 (base : Nat) (_ : Option Home) (v : V) (k : V → Prog) : Prog :=
  match v with
  | .xsl _ sz es => k (.xsl 0 sz es)
  | .fsl _ sz es => k (.fsl 0 sz es)
  | .isl _ sz es => k (.isl 0 sz es)
  | .nilS sz => k (.xsl 0 sz [])
  | .csl sz es => k (.isl 0 sz es)
  | .srf h g sz off len => settle1 (match h with | .obj o _ => if o < base then none else some h | .slot .. => some h) (.srf h g sz off len) k
  | .asl .. | .iptr _ | .gone _ | .agg _ | .tup _ => .fail
  | v => k v
def ress (base : Nat) : List V → (List V → Prog) → Prog
  | [], k => k []
  | v :: vs, k => res1 base none v fun v' => ress base vs fun vs' => k (v' :: vs')
def getRes (base : Nat) : VRes → (V → Prog) → Prog
  | .tmp t, k => gOpd (.tmp t) fun v => match v with
      | .tup _ => .fail
      | v => drain (.tmp t) <| ress base v.leaves fun ls => k (v.withLeaves ls)
  | .cell a agg n, k => gOpd (.tmp a) fun
      | .ptr r => gCells r n fun cs => optV (ofCells agg cs) fun v => ress base v.leaves fun ls => k (v.withLeaves ls)
      | _ => .fail
def getRess (base : Nat) : List VRes → (List V → Prog) → Prog
  | [], k => k []
  | r :: rs, k => getRes base r fun v => getRess base rs fun vs => k (v :: vs)
def resProg (n base : Nat) (rs : List VRes) : Prog :=
  getRess base rs fun vs => gTheres (vs.flatMap V.leaves) (.setS n (match vs with | [v] => v | vs => .tup vs) .ret)
def reachV (σ : St) : Nat → List Nat → List Nat → Option (List Nat)
  | _, [], acc => some acc
  | 0, _ :: _, _ => none
  | n + 1, o :: todo, acc =>
    if o ∈ acc then reachV σ n todo acc
    else match σ.obj o with
      | some (.cells cs) => reachV σ n (todo ++ V.objIds.idsIn cs) (acc ++ [o])
      | _ => none
def finish (fn : VFunc) (base : Nat) (σ : St) : Option (V × List Obj) :=
  match (resProg fn.ntmps base fn.results).run { σ with slots := σ.slots ++ [.gone 0] } with
  | some σ' =>
    match reachV σ' 64 (List.range base ++ V.objIds (σ'.slot fn.ntmps)) [] with
    | some ids =>
      if ids.Nodup ∧ ids.take base = List.range base then
        match (σ'.slot fn.ntmps).ren (findIdx ids), (ids.mapM fun o => (σ'.obj o).bind (objRen (findIdx ids))) with
        | some r', some os => some (r', os)
        | _, _ => none
      else none
    | none => none
  | none => none
def start (fn : VFunc) (args : List V) (objs : List Obj) : St :=
  { slots := args ++ List.replicate (fn.ntmps - args.length) (.gone 0), objs := objs.map some ++ List.replicate fn.nsites none }
inductive VDef where
  | code (fn : VFunc)
  | prim (run : List V → List Obj → Option (V × List Obj))
  | iter (run : Iter)
abbrev VProg := FuncId → Option VDef
def itersOf (G : VProg) (f : FuncId) : Iter := match G f with
  | some (.iter run) => run
  | _ => fun _ => none
def callWith (G : VProg) (exec : Nat → VCode → St → Option (Out × St)) (f : FuncId) (args : List V) (objs : List Obj) : Option (V × List Obj) :=
  match G f with
  | some (.code fn) =>
    if args.length = fn.nparams ∧ fn.nparams ≤ fn.ntmps then
      match exec objs.length fn.body (start fn args objs) with
      | some (.normal, σ) | some (.ret, σ) => finish fn objs.length σ
      | _ => none
    else none
  | some (.prim run) => run args objs
  | some (.iter _) => none
  | none => none
def exec (G : VProg) : Nat → Nat → VCode → St → Option (Out × St)
  | 0, _, _, _ => none
  | n + 1, base, c, σ => step (callWith G (exec G n)) (itersOf G) (exec G n) base c σ
def call (G : VProg) (n : Nat) : Callee := callWith G (exec G n)
def plainV : Value → Option V
  | .bool b => some (.bool b)
  | .int k n => some (.int k n)
  | .string s => some (.str s.data.toList)
  | .pointer none => some .nil
  | .map none => some .nilm
  | .nilFunc => some .nilf
  | .nilIface => some .nili
  | _ => none
section
variable (P : Program)
def under (t : TypeId) : Option TypeDesc := P.underlying t
def szOf (t : TypeId) : Option Nat := (P.info? t).map (·.size)
def bytesOf (t : TypeId) : Option Nat := (P.info? t).map (·.bytes)
def aggOf (t : TypeId) : Option Bool := do
  match ← under P t with
  | .struct _ | .array _ _ => pure true
  | _ => pure false
def cellTypes : Nat → TypeId → Option (List TypeId)
  | 0, _ => none
  | n + 1, t => do
    match ← under P t with
    | .struct fs => do pure (← fs.toList.mapM fun f => cellTypes n f.type).flatten
    | .array len e => do pure (List.replicate len (← cellTypes n e)).flatten
    | _ => pure [t]
def nilOf (t : TypeId) : Option V := do
  match ← under P t with
  | .slice e => do pure (.nilS (← szOf P e))
  | _ => none
def valOf (t : TypeId) (v : Value) : Option V :=
  match v with
  | .slice none 0 0 => nilOf P t
  | v => plainV v
def valsOf : List TypeId → List Value → Option (List V)
  | [], [] => some []
  | t :: ts, v :: vs => do pure ((← valOf P t v) :: (← valsOf ts vs))
  | _, _ => none
def zeroOf (t : TypeId) : Option (List V) := do
  let i ← P.info? t
  let z ← i.zero
  let ts ← cellTypes P 20 t
  valsOf P ts z.cells.toList
def opd (t : TypeId) : Operand → Option Opd
  | .tmp n => some (.tmp n)
  | .const (.agg cs) => do
      let ts ← cellTypes P 20 t
      let vs ← valsOf P ts cs.toList
      pure (.val (.agg vs))
  | .const v => (valOf P t v).map .val
  | .func f => some (.val (.func f []))
  | .global _ => none
def opd0 : Operand → Option Opd
  | .tmp n => some (.tmp n)
  | .const (.slice ..) => none
  | .const v => (plainV v).map .val
  | .func f => some (.val (.func f []))
  | .global _ => none
def opdO : Option Operand → Option (Option Opd)
  | none => some none
  | some x => (opd0 x).map some
def eqFields (go : TypeId → Option (List CK)) : List Field → Nat → Option (List CK)
  | [], _ => some []
  | f :: fs, off => match go f.type with
    | some m => if f.name ≠ "_" ∧ f.offset = off ∧ szOf P f.type = some m.length then (eqFields go fs (off + m.length)).map (m ++ ·) else none
    | none => none
def eqLay : Nat → TypeId → Option (List CK)
  | 0, _ => none
  | n + 1, t => match under P t with
    | some (.struct fs) => if P.stoodInHeld t then none else eqFields P (eqLay n) fs.toList 0
    | some (.array len e) => match eqLay n e with
      | some m => if szOf P e = some m.length then some (List.replicate len m).flatten else none
      | none => none
    | some .bool => some [.bool]
    | some (.int k) => some [.int k]
    | some .string => some [.str]
    | _ => none
def eqKind (t : TypeId) : Option EqK :=
  match under P t with
  | some (.int _) | some .string => some .num
  | some .bool => some .bool
  | some (.pointer _) => some .ptr
  | some (.func ..) => some .func
  | some (.map ..) => some .map
  | some (.slice _) => some .slice
  | some (.struct _) | some (.array ..) => if P.eqGuardType P.depth t = false then (eqLay P 20 t).map .cells else none
  | _ => none
def cOp (o : Oper) (site : Nat) : Option VOp :=
  match o.op with
  | .move x => do pure (.move (← opd P o.type x))
  | .assign x => do pure (.assign (← opd P o.type x))
  | .pick c a b => do pure (.pick (← opd0 c) (← opd0 a) (← opd0 b))
  | .alloc t => do pure (.alloc site ((← zeroOf P t).map obj1))
  | .box t x => do pure (.box site (← szOf P t) (← opd P t x))
  | .build t ps => do
      let z ← zeroOf P t
      match ← under P t with
      | .struct fs => do
          let pl ← fs.toList.mapM fun f => (P.info? f.type).map fun i => (f.offset, i.size)
          pure (.build z (← ps.toList.mapM fun (i, x) => do
            let f ← fs[i]?
            let (off, n) ← pl[i]?
            pure (off, n, ← opd P f.type x)))
      | .array _ e => do
          let n ← szOf P e
          pure (.build z (← ps.toList.mapM fun (i, x) => do pure (i * n, n, ← opd P e x)))
      | _ => none
  | .buildSlice t n ps => do
      match ← under P t with
      | .slice e => do
        let sz ← szOf P e
        let zs ← zeroOf P e
        let z ← ofCells (← aggOf P e) (zs.map freeze1)
        if sz = 0 ∨ n * sz > 2 ^ 24 ∨ zs.length ≠ sz then none else
        pure (.buildSlice sz (List.replicate n z) (← ps.toList.mapM fun (i, x) => do pure (i, ← opd P e x)))
      | _ => none
  | .load t a => do pure (.load (← aggOf P t) (← szOf P t) (← opd0 a))
  | .store t a x => do if o.dst.isSome then none else pure (.store (← szOf P t) (← opd0 a) (← opd P t x))
  | .nilCheck x => do pure (.nilCheck (← opd0 x))
  | .binOp op t x y _ => do
      match op with
      | .eql => do pure (.eq false (← eqKind P t) (← opd P t x) (← opd P t y))
      | .neq => do pure (.eq true (← eqKind P t) (← opd P t x) (← opd P t y))
      | _ => do pure (.bin op (← opd0 x) (← opd0 y))
  | .unOp op _ x => do pure (.un op (← opd0 x))
  | .convert s d x => do
      match ← under P s, ← under P d with
      | .int _, .int k => do pure (.conv (.int k) (← opd0 x))
      | .string, .string => do pure (.conv .same (← opd0 x))
      | .int _, .string => do pure (.conv .rune (← opd0 x))
      | .string, .slice e => do
        match ← under P e with
        | .int .u8 => do pure (.conv .bytes (← opd0 x))
        | _ => none
      | .slice e, .string => do
        match ← under P e with
        | .int .u8 => do pure (.conv .text (← opd P s x))
        | _ => none
      | .slice _, .slice e => do
        match ← under P e with
        | .int .u8 => do if s = d then pure (.conv .lit (← opd P s x)) else none
        | _ => none
      | _, _ => none
  | .makeInterface t x => do match ← under P t with | .interface _ => none | _ => pure (.iface t (← opd P t x))
  | .makeFunc (.func f) first caps => if first.isEmpty then do pure (.makeFunc f (← caps.toList.mapM opd0)) else none
  | .makeSlice t l c => do
      match ← under P t with
      | .slice e => do
        let sz ← szOf P e
        let zs ← zeroOf P e
        if sz = 0 ∨ zs.length ≠ sz then none else
        pure (.makeSlice sz (← bytesOf P e) (← ofCells (← aggOf P e) (zs.map freeze1)) (← opd0 l) (← opd0 c))
      | _ => none
  | .slice t x lo hi mx => do
      match ← under P t with
      | .array n e => do if (← szOf P e) = 1 ∧ mx.isNone then pure (.slice (.arr n) (← opd0 x) (← opdO lo) (← opdO hi) none) else none
      | .slice e => do if hi.isNone && mx.isSome then none else pure (.slice (.slc (← szOf P e)) (← opd P t x) (← opdO lo) (← opdO hi) (← opdO mx))
      | .string => do if mx.isSome then none else pure (.slice .str (← opd P t x) (← opdO lo) (← opdO hi) none)
      | _ => none
  | .fieldAddr t x i => do
      match ← under P t with
      | .struct fs => do
        let f ← fs[i]?
        if (← szOf P f.type) = 0 then none else pure (.fieldAddr f.offset (← opd0 x))
      | _ => none
  | .field t x i => do
      match ← under P t with
      | .struct fs => do
        let f ← fs[i]?
        pure (.field f.offset (← szOf P f.type) (← aggOf P f.type) (← opd P t x))
      | _ => none
  | .indexAddr t x i => do
      match ← under P t with
      | .array n e => do pure (.indexAddr (some n) (← szOf P e) (← opd0 x) (← opd0 i))
      | .slice e => do if (← szOf P e) = 0 then none else pure (.indexAddr none (← szOf P e) (← opd P t x) (← opd0 i))
      | _ => none
  | .index t x i => do
      match ← under P t with
      | .array n e => do pure (.indexArr n (← szOf P e) (← aggOf P e) (← opd P t x) (← opd0 i))
      | .string => do pure (.indexStr (← opd0 x) (← opd0 i))
      | _ => none
  | .extract x i => do pure (.extract (← opd0 x) i)
  | .call { callee := .value (.func f), args, argTypes } => do
      pure (.call false f site (← (args.toList.zip (argTypes.toList ++ List.replicate args.size 0)).mapM fun (x, t) => opd P t x))
  | .call { callee := .value x, args, argTypes } => do
      pure (.callv false (← opd0 x) site (← (args.toList.zip (argTypes.toList ++ List.replicate args.size 0)).mapM fun (x, t) => opd P t x))
  | .call { callee := .builtin b, args, argTypes } => do
      match b, args.toList, argTypes.toList with
      | .len, [x], [t] => do
        match ← under P t with
        | .array n _ => pure (.len (.arr n) (.val .nil))
        | .pointer a => do match ← under P a with | .array n _ => pure (.len (.arr n) (.val .nil)) | _ => none
        | .string => do pure (.len .str (← opd P t x))
        | .slice e => do pure (.len (.slc (← szOf P e)) (← opd P t x))
        | .map .. => do pure (.len .map (← opd P t x))
        | _ => none
      | .cap, [x], [t] => do
        match ← under P t with
        | .slice _ => do pure (.cap (← opd P t x))
        | _ => none
      | .append, [s, x], [t, u] => do
        match ← under P t, ← under P u with
        | d, .int _ => (match d with
          | .slice e => do
            let sz ← szOf P e
            let bytes ← bytesOf P e
            let zs ← zeroOf P e
            let zero ← ofCells (← aggOf P e) (zs.map freeze1)
            if sz = 0 ∨ bytes = 0 ∨ zs.length ≠ sz then none else pure (.appendZ sz bytes zero (← opd P t s) (← opd0 x))
          | _ => none)
        | .slice e, _ => do
          let sz ← szOf P e
          let bytes ← bytesOf P e
          let zs ← zeroOf P e
          if sz = 0 ∨ bytes = 0 ∨ zs.length ≠ sz then none else pure (.append sz bytes (← opd P t s) (← opd P u x))
        | _, _ => none
      | .copy, [d, s], [t, u] => do
        match ← under P t with
        | .slice e => do
          let sz ← szOf P e
          if sz = 0 then none else pure (.copy sz (← opd P t d) (← opd P u s))
        | _ => none
      | .max, xs, _ => do pure (.max (← xs.mapM opd0))
      | .min, xs, _ => do pure (.min (← xs.mapM opd0))
      | _, _, _ => none
  | _ => none
def sitesOf (o : Oper) : Nat :=
  match o.op with
  | .alloc _ | .box .. | .makeMap .. => 1
  | .call { callee := .value _, .. } =>
    match under P o.type with
    | some (.pointer _) => 4
    | some (.func ..) => 4
    | some (.tuple ts) => if ts.toList.any fun t => (match under P t with | some (.pointer _) => true | _ => false) then 4 else 0
    | _ => 0
  | _ => 0
def vbef (done : List Nat) (o : Oper) : Nat := o.after.toList.foldl (fun s e => if Region.binds .any e then s ||| 2 ^ e.on ||| done.getD e.on 0 else s) 0
def cGuard (all : Array Oper) (o : Oper) : Option (Option (Nat × Bool)) :=
  match o.guard with
  | none => some none
  | some (j, want) => ((all[j]?).bind (·.dst)).map fun s => some (s, want)
def cOps (all : Array Oper) : Nat → List Nat → List Oper → Option (Nat × List VOper)
  | site, _, [] => some (site, [])
  | site, done, o :: os => do
    let op := (cOp P o site).getD .stuck
    let guard ← cGuard all o
    if o.after.toList.any (fun e => Region.binds .any e && decide (done.length ≤ e.on)) then none else
    let (n, rest) ← cOps all (site + sitesOf P o) (done ++ [vbef done o]) os
    pure (n, { dst := o.dst, op := op.strip, guard, before := vbef done o } :: rest)
def ordOk (ops : Array Oper) : Bool :=
  let ord := Region.linearise .gc ops 0
  (List.range ops.size).all fun i => match ops[i]? with
    | some o => o.after.toList.all fun e => decide (e.on < ops.size) && (match e.ground with
        | .gcOnly _ => true
        | _ => decide (e.on < i)) && (!Region.binds .gc e || decide (ord.findIdx (· == e.on) < ord.findIdx (· == i)))
    | none => true
def cCode : Bool → Nat → Code → Option (Nat × VCode)
  | _, site, .skip => some (site, .skip)
  | _, site, .region _ ops draw => do
      let (n, l) ← cOps P ops site [] ops.toList
      if draw && !ordOk ops then none else pure (n, .region l draw)
  | r, site, .seq a b => do
      let (n, x) ← cCode r site a
      let (m, y) ← cCode r n b
      pure (m, .seq x y)
  | r, site, .cond c a b => do
      let c ← opd0 c
      let (n, x) ← cCode r site a
      let (m, y) ← cCode r n b
      pure (m, .cond c x y)
  | r, site, .block id a => do let (n, x) ← cCode r site a; pure (n, .block id none x)
  | r, site, .loop a => do let (n, x) ← cCode r site a; pure (n, .loop none x)
  | r, site, .scope a => cCode r site a
  | _, site, .exit id => some (site, .exit id)
  | _, site, .ret => some (site, .ret)
  | false, site, .rangeFunc g ps a b => do
      let x ← opd0 g
      let (n, va) ← cCode true 0 a
      let (m, vb) ← cCode true n b
      pure (site + m, .range x ps.toList site none va vb)
  | _, site, _ => some (site, .bad)
def cRes : ResultVar → Option VRes
  | .tmp t => some (.tmp t)
  | .cell a t => do pure (.cell a (← aggOf P t) (← szOf P t))
def cFunc (fn : Func) : Option VFunc := do
  let c ← fn.body
  let (n, body) ← cCode P false 0 c
  let results ← fn.results.toList.mapM (cRes P)
  pure { nparams := fn.params.size + fn.nfree, ntmps := fn.ntmps, nsites := n, results, body }
end
end Go.Vq
namespace Go.Vq
inductive Tag where
  | other
  | imm
  | obj (o : Nat)
  | home (h : Home)
  | tail (h : Home) (n : Nat)
  | lent (n : Nat)
  deriving DecidableEq
structure Env where
  tag : Nat → Tag
  addr : Nat → Nat
def cellAt (H : Array Go.Obj) (b i : Nat) : Option Value :=
  match H[b]? with
  | some (.cells c _ _) => c[i]?
  | _ => none
def Env.imm (E : Env) (b i : Nat) : Prop :=
  match E.tag b with
  | .imm => True
  | .tail _ n => i < n
  | .lent n => i < n
  | _ => False
def V.leaf : V → Bool
  | .agg _ | .tup _ => false
  | _ => true
def elemOk (sz : Nat) (e : V) : Prop := e.cells.length = sz ∧ ∀ u ∈ e.cells, u.leaf = true
inductive RelI (imm : Nat → Nat → Prop) (H : Array Go.Obj) : V → Value → Prop
  | bool (b : Bool) : RelI imm H (.bool b) (.bool b)
  | int (k : IntKind) (n : Int) : RelI imm H (.int k n) (.int k n)
  | str (s : List UInt8) : RelI imm H (.str s) (.string ⟨s.toArray⟩)
  | nil : RelI imm H .nil (.pointer none)
  | nilf : RelI imm H .nilf .nilFunc
  | nilm : RelI imm H .nilm (.map none)
  | nili : RelI imm H .nili .nilIface
  | nilS (sz : Nat) : RelI imm H (.nilS sz) (.slice none 0 0)
  | iface (t : TypeId) (v : V) (x : Value) (hp : v.plain = true) (h : RelI imm H v x) : RelI imm H (.iface t v) (.iface t x)
  | agg (cs : List V) (xs : Array Value) (hn : cs.length = xs.size) (h : ∀ (i : Nat) (v : V) (x : Value), cs[i]? = some v → xs[i]? = some x → RelI imm H v x) : RelI imm H (.agg cs) (.agg xs)
  | isl (g sz : Nat) (es : List V) (a : Option Addr) (cap : Nat) (xs : Nat → Nat → Value) (hc : es.length ≤ cap) (ha : a = none → cap = 0)
      (hsp : ∀ ad, a = some ad → cap ≠ 0 → ad.spot = none)
      (hz : ∀ e ∈ es, elemOk sz e)
      (hx : ∀ (ad : Addr) (i : Nat) (e : V) (j : Nat) (v : V), a = some ad → es[i]? = some e → e.cells[j]? = some v → imm ad.block (ad.off + (i * sz + j)) ∧ cellAt H ad.block (ad.off + (i * sz + j)) = some (xs i j))
      (h : ∀ (i : Nat) (e : V) (j : Nat) (v : V), es[i]? = some e → e.cells[j]? = some v → RelI imm H v (xs i j)) : RelI imm H (.isl g sz es) (.slice a es.length cap)
theorem RelI.mono {imm imm' : Nat → Nat → Prop} {H H' : Array Go.Obj} (hm : ∀ b i, imm b i → imm' b i ∧ cellAt H' b i = cellAt H b i) {v : V} {x : Value} (h : RelI imm H v x) : RelI imm' H' v x := by
  induction h with
  | bool b => exact .bool b
  | int k n => exact .int k n
  | str s => exact .str s
  | nil => exact .nil
  | nilf => exact .nilf
  | nilm => exact .nilm
  | nili => exact .nili
  | nilS sz => exact .nilS sz
  | iface t v x hp _ ih => exact .iface t v x hp ih
  | agg cs xs hn _ ih => exact .agg cs xs hn ih
  | isl g sz es a cap xs hc ha hsp hz hx _ ih =>
    refine .isl g sz es a cap xs hc ha hsp hz ?_ ih
    intro ad i e j v h1 h2 h3
    obtain ⟨p, q⟩ := hx ad i e j v h1 h2 h3
    exact ⟨(hm _ _ p).1, (hm _ _ p).2.trans q⟩
def alive (objs : List (Option Obj)) (o : Nat) : Prop := ∃ x, objs[o]? = some (some x)
inductive RelC (E : Env) (objs : List (Option Obj)) (H : Array Go.Obj) : V → Value → Prop
  | imm (v : V) (x : Value) (h : RelI E.imm H v x) (hl : ∀ u ∈ v.leaves, u.inElem = true) : RelC E objs H v x
  | ptr (o off : Nat) (h : alive objs o) : RelC E objs H (.ptr (.obj o off)) (.pointer (some ⟨E.addr o, off, none⟩))
  | map (o : Nat) (h : alive objs o) : RelC E objs H (.map o) (.map (some (E.addr o)))
  | func (f : FuncId) (cs : List V) (xs : Array Value) (hn : cs.length = xs.size) (h : ∀ (i : Nat) (v : V) (x : Value), cs[i]? = some v → xs[i]? = some x → RelC E objs H v x) :
      RelC E objs H (.func f cs) (.func (.func f) #[] xs)
  | iptr (cs : List V) (ad : Addr) (hs : ad.spot = none) (h : ∀ (j : Nat) (v : V), cs[j]? = some v → v.leaf = true ∧ ∃ y, E.imm ad.block (ad.off + j) ∧ cellAt H ad.block (ad.off + j) = some y ∧ RelI E.imm H v y) : RelC E objs H (.iptr cs) (.pointer (some ad))
def vcells (x : Value) : List Value := x.cells.toList
def vleaves : Value → List Value
  | .agg cs => cs.toList
  | .tuple vs => vs.toList.flatMap vcells
  | v => [v]
def ct (slots : List V) (objs : List (Option Obj)) : Home → Option V
  | .slot s off => (slots.getD s (.gone 0)).leaves[off]?
  | .obj o off => match objs[o]? with
    | some (some (.cells cs)) => cs[off]?
    | _ => none
def hd (E : Env) (vals : List Value) (H : Array Go.Obj) : Home → Option Value
  | .slot s off => (vals[s]?).bind fun x => (vleaves x)[off]?
  | .obj o off => cellAt H (E.addr o) off
def V.gen? : V → Option (Nat × Nat)
  | .xsl g sz _ | .isl g sz _ | .fsl g sz _ => some (g, sz)
  | _ => none
def valid (slots : List V) (objs : List (Option Obj)) (h : Home) (g sz : Nat) : Prop :=
  ∃ v, ct slots objs h = some v ∧ v.gen? = some (g, sz)
def open_ (f : Nat × Nat) (n : Nat) : Prop := f.1 ≤ f.2 ∧ ∀ i, i < n → ¬(f.1 ≤ i ∧ i < f.2)
def Elems (imm : Nat → Nat → Prop) (H : Array Go.Obj) (a : Option Addr) (sz : Nat) (es : List V) : Prop :=
  (∀ e ∈ es, elemOk sz e) ∧
  ∀ (i : Nat) (e : V) (j : Nat) (v : V), es[i]? = some e → e.cells[j]? = some v → ∃ ad x, a = some ad ∧ cellAt H ad.block (ad.off + (i * sz + j)) = some x ∧ RelI imm H v x
section
variable (E : Env) (slots : List V) (objs : List (Option Obj)) (vals : List Value) (H : Array Go.Obj)
def RelV (h : Home) : V → Value → Prop
  | .xsl _ sz es, x => ∃ a cap, x = .slice a es.length cap ∧ es.length ≤ cap ∧ (a = none → cap = 0) ∧ (∀ ad, a = some ad → cap ≠ 0 → ad.spot = none) ∧
      (cap ≠ 0 → ∃ ad arr T f, a = some ad ∧ E.tag ad.block = .home h ∧ H[ad.block]? = some (.cells arr T f) ∧ ad.off + cap * sz ≤ arr.size ∧ open_ f arr.size) ∧
      Elems E.imm H a sz es
  | .fsl _ sz es, x => ∃ a cap, x = .slice a es.length cap ∧ es.length ≤ cap ∧ (a = none → cap = 0) ∧ (∀ ad, a = some ad → cap ≠ 0 → ad.spot = none) ∧
      (cap ≠ 0 → ∃ ad arr T f, a = some ad ∧ E.tag ad.block = .tail h (ad.off + es.length * sz) ∧ H[ad.block]? = some (.cells arr T f) ∧ ad.off + cap * sz ≤ arr.size ∧ open_ f arr.size) ∧
      Elems E.imm H a sz es
  | .csl sz es, x => RelI E.imm H (.isl 0 sz es) x ∧ ∃ a, x = .slice a es.length es.length
  | .ptr (.obj o off), x => x = .pointer (some ⟨E.addr o, off, none⟩) ∧ alive objs o
  | .ptr (.elem h' g sz i off), x => ∃ ad' : Addr, x = .pointer (some ad') ∧ (valid slots objs h' g sz → ∃ ad l c, hd E vals H h' = some (.slice (some ad) l c) ∧ ad' = ⟨ad.block, ad.off + (i * sz + off), none⟩)
  | .srf h' g sz off len, x => ∃ a' c', x = .slice a' len c' ∧ len ≤ c' ∧ (a' = none → c' = 0) ∧ (∀ ad, a' = some ad → c' ≠ 0 → ad.spot = none) ∧
      (valid slots objs h' g sz → ∃ a l c, hd E vals H h' = some (.slice a l c) ∧ (c' ≠ 0 → ∃ ad, a = some ad ∧ a' = some ⟨ad.block, ad.off + off * sz, none⟩ ∧ off + c' ≤ c))
  | .asl (.obj o off) len, x => ∃ c, x = .slice (some ⟨E.addr o, off, none⟩) len c ∧ len ≤ c ∧ alive objs o
  | .asl (.elem h' g sz i off) len, x => ∃ (ad' : Addr) (c' : Nat), x = .slice (some ad') len c' ∧ len ≤ c' ∧ ad'.spot = none ∧ (valid slots objs h' g sz → ∃ ad l c, hd E vals H h' = some (.slice (some ad) l c) ∧ ad' = ⟨ad.block, ad.off + (i * sz + off), none⟩)
  | .iptr cs, x => ∃ ad : Addr, x = .pointer (some ad) ∧ ad.spot = none ∧ ∀ (j : Nat) (v : V), cs[j]? = some v → v.leaf = true ∧ ∃ y, E.imm ad.block (ad.off + j) ∧ cellAt H ad.block (ad.off + j) = some y ∧ RelI E.imm H v y
  | .gone _, _ => True
  | .func f cs, x => RelC E objs H (.func f cs) x
  | .map o, x => x = .map (some (E.addr o)) ∧ alive objs o
  | .agg _, _ => False
  | .tup _, _ => False
  | v, x => RelI E.imm H v x
def leafX : Value → Bool
  | .agg _ | .tuple _ => false
  | _ => true
def aggX : Value → Bool
  | .agg _ => true
  | _ => false
def Shape1 (v : V) (x : Value) : Prop :=
  match v with
  | .agg cs => ∃ xs, x = .agg xs ∧ cs.length = xs.size
  | .tup _ => False
  | _ => aggX x = false
def Shape (v : V) (x : Value) : Prop :=
  match v with
  | .agg cs => ∃ xs, x = .agg xs ∧ cs.length = xs.size
  | .tup vs => ∃ xs, x = .tuple xs ∧ vs.length = xs.size ∧ ∀ (i : Nat) (v : V) (x : Value), vs[i]? = some v → xs[i]? = some x → Shape1 v x
  | .gone _ => True
  | _ => leafX x = true
def SlotRel (s : Nat) (v : V) (x : Value) : Prop :=
  Shape v x ∧ ∀ (i : Nat) (u : V) (y : Value), v.leaves[i]? = some u → (vleaves x)[i]? = some y → RelV E slots objs vals H (.slot s i) u y
end
def V.own : V → Bool
  | .xsl .. | .fsl .. => true
  | _ => false
def V.refs1 : V → List (Home × Nat)
  | .srf h g _ _ _ => [(h, g)]
  | .ptr (.elem h g _ _ _) => [(h, g)]
  | .asl (.elem h g _ _ _) _ => [(h, g)]
  | _ => []
def V.refs (v : V) : List (Home × Nat) := v.leaves.flatMap V.refs1
structure Core (n : Nat) (E : Env) (slots : List V) (objs : List (Option Obj)) (vals : List Value) (H : Array Go.Obj) : Prop where
  len : slots.length = vals.length
  real : n ≤ slots.length
  slot : ∀ (s : Nat) (v : V) (x : Value), slots[s]? = some v → vals[s]? = some x → SlotRel E slots objs vals H s v x
  obj : ∀ (o : Nat) (cs : List V), objs[o]? = some (some (.cells cs)) → ∃ arr T f, H[E.addr o]? = some (.cells arr T f) ∧ E.tag (E.addr o) = .obj o ∧ arr.size = cs.length ∧ open_ f arr.size ∧
    (∀ (i : Nat) (u : V) (y : Value), cs[i]? = some u → arr[i]? = some y → RelV E slots objs vals H (.obj o i) u y) ∧ ∀ u ∈ cs, u.inObj = true
  fresh : ∀ b, H.size ≤ b → E.tag b = .other
  refs : ∀ (s : Nat) (v : V), slots[s]? = some v → ∀ r ∈ v.refs, (∀ t i, r.1 = .slot t i → t < n) ∧ ∃ u, ct slots objs r.1 = some u ∧ r.2 < u.nextg
theorem V.inObj_refs1 {u : V} (h : u.inObj = true) : u.refs1 = [] := by
  cases u <;> simp_all [V.inObj, V.refs1]
  case ptr r => cases r <;> simp_all [V.inObj, V.refs1]
theorem shape1_leaf {v : V} {x : Value} (h : v.leaf = true) : Shape1 v x ↔ aggX x = false := by
  cases v <;> first | rfl | simp [V.leaf] at h
theorem shape_leaf {v : V} {x : Value} (h : v.leaf = true) (hx : leafX x = true) : Shape v x := by
  cases v <;> first | exact hx | trivial | simp [V.leaf] at h
theorem leaf_shape {v : V} {x : Value} (h : v.leaf = true) (hg : ∀ g, v ≠ .gone g) (hs : Shape v x) : leafX x = true := by
  cases v <;> first | exact hs | exact absurd rfl (hg _) | simp [V.leaf] at h
theorem vleaves_leaf {x : Value} (h : leafX x = true) : vleaves x = [x] := by cases x <;> first | rfl | simp [leafX] at h
theorem vcells_leaf {x : Value} (h : aggX x = false) : vcells x = [x] := by cases x <;> first | rfl | simp [aggX] at h
theorem cells_leaf {v : V} (h : v.leaf = true) : v.cells = [v] := by cases v <;> first | rfl | simp [V.leaf] at h
theorem leaves_leaf {v : V} (h : v.leaf = true) : v.leaves = [v] := by cases v <;> first | rfl | simp [V.leaf] at h
theorem withLeaves_leaf {v : V} (h : v.leaf = true) (ls : List V) : v.withLeaves ls = ls.headD v := by cases v <;> first | rfl | simp [V.leaf] at h
theorem layTup_leaf {v : V} (h : v.leaf = true) (vs ls : List V) : layTup (v :: vs) ls = ls.headD v :: layTup vs (ls.drop 1) := by cases v <;> first | rfl | simp [V.leaf] at h
theorem Elems.mono {imm imm' : Nat → Nat → Prop} {H H' : Array Go.Obj} {a : Option Addr} {sz : Nat} {es : List V} (hm : ∀ b i, imm b i → imm' b i ∧ cellAt H' b i = cellAt H b i)
    (hb : ∀ ad, a = some ad → H'[ad.block]? = H[ad.block]?) (h : Elems imm H a sz es) : Elems imm' H' a sz es := by
  refine ⟨h.1, fun i e j v h1 h2 => ?_⟩
  obtain ⟨ad, x, e1, e2, e3⟩ := h.2 i e j v h1 h2
  refine ⟨ad, x, e1, ?_, e3.mono hm⟩
  unfold cellAt at *
  rw [hb ad e1]; exact e2
theorem RelC.mono {E E' : Env} {objs objs' : List (Option Obj)} {H H' : Array Go.Obj} (hm : ∀ b i, E.imm b i → E'.imm b i ∧ cellAt H' b i = cellAt H b i) {v : V} {x : Value} (h : RelC E objs H v x)
    (ha : ∀ o ∈ v.objIds, alive objs o → E'.addr o = E.addr o ∧ alive objs' o) : RelC E' objs' H' v x := by
  induction h with
  | imm v x h hl => exact .imm v x (h.mono hm) hl
  | ptr o off hl => obtain ⟨e, hl'⟩ := ha o (by simp [V.objIds]) hl; rw [← e]; exact .ptr o off hl'
  | map o hl => obtain ⟨e, hl'⟩ := ha o (by simp [V.objIds]) hl; rw [← e]; exact .map o hl'
  | iptr cs ad hs h =>
    refine .iptr cs ad hs fun j v hj => ?_
    obtain ⟨e0, y, e1, e2, e3⟩ := h j v hj
    exact ⟨e0, y, (hm _ _ e1).1, (hm _ _ e1).2.trans e2, e3.mono hm⟩
  | func f cs xs hn h ih =>
    refine .func f cs xs hn fun i v x h1 h2 => ih i v x h1 h2 fun o ho => ha o ?_
    have : v ∈ cs := List.mem_of_getElem? h1
    simp only [V.objIds]
    clear ih h hn ha h1 h2
    induction cs with
    | nil => cases this
    | cons c cs ih =>
      simp only [V.objIds.idsIn, List.mem_append]
      cases this with
      | head => exact .inl ho
      | tail _ hm => exact .inr (ih hm)
theorem RelV.move {E E' : Env} {slots slots' : List V} {objs objs' : List (Option Obj)} {vals vals' : List Value} {H H' : Array Go.Obj} {h h' : Home} {v : V} {x : Value}
    (hv : RelV E slots objs vals H h v x)
    (c1 : ∀ b i, E.imm b i → E'.imm b i ∧ cellAt H' b i = cellAt H b i)
    (c2 : v.own = true → ∀ b, E.tag b = .home h → E'.tag b = .home h' ∧ H'[b]? = H[b]?)
    (c2' : v.own = true → ∀ b n, E.tag b = .tail h n → E'.tag b = .tail h' n ∧ H'[b]? = H[b]?)
    (c3 : ∀ o ∈ v.objIds, alive objs o → E'.addr o = E.addr o ∧ alive objs' o)
    (c3' : ∀ o off l, v = .asl (.obj o off) l → alive objs o → E'.addr o = E.addr o ∧ alive objs' o)
    (c4 : ∀ r ∈ v.refs1, ∀ sz, valid slots' objs' r.1 r.2 sz → valid slots objs r.1 r.2 sz ∧ hd E' vals' H' r.1 = hd E vals H r.1) :
    RelV E' slots' objs' vals' H' h' v x := by
  cases v with
  | xsl g sz es =>
    obtain ⟨a, cap, h1, h2, h3, h4, h5, h6⟩ := hv
    refine ⟨a, cap, h1, h2, h3, h4, fun hc => ?_, ?_⟩
    · obtain ⟨ad, arr, T, f, e1, e2, e3, e4, e5⟩ := h5 hc
      obtain ⟨t1, t2⟩ := c2 rfl _ e2
      exact ⟨ad, arr, T, f, e1, t1, t2.trans e3, e4, e5⟩
    · by_cases hc : cap = 0
      · have : es = [] := by cases es with | nil => rfl | cons => simp [hc] at h2
        subst this
        exact ⟨h6.1, fun i e j v h => by simp at h⟩
      · obtain ⟨ad, arr, T, f, e1, e2, e3, e4, e5⟩ := h5 hc
        refine h6.mono c1 fun ad' e' => ?_
        rw [e1] at e'; cases e'
        exact (c2 rfl _ e2).2
  | fsl g sz es =>
    obtain ⟨a, cap, h1, h2, h3, h4, h5, h6⟩ := hv
    refine ⟨a, cap, h1, h2, h3, h4, fun hc => ?_, ?_⟩
    · obtain ⟨ad, arr, T, f, e1, e2, e3, e4, e5⟩ := h5 hc
      obtain ⟨t1, t2⟩ := c2' rfl _ _ e2
      exact ⟨ad, arr, T, f, e1, t1, t2.trans e3, e4, e5⟩
    · by_cases hc : cap = 0
      · have : es = [] := by cases es with | nil => rfl | cons => simp [hc] at h2
        subst this
        exact ⟨h6.1, fun i e j v h => by simp at h⟩
      · obtain ⟨ad, arr, T, f, e1, e2, e3, e4, e5⟩ := h5 hc
        refine h6.mono c1 fun ad' e' => ?_
        rw [e1] at e'; cases e'
        exact (c2' rfl _ _ e2).2
  | csl sz es => exact ⟨hv.1.mono c1, hv.2⟩
  | ptr r =>
    cases r with
    | obj o off => obtain ⟨e1, e2⟩ := c3 o (by simp [V.objIds]) hv.2; simp only [RelV] at hv ⊢; rw [e1]; exact ⟨hv.1, e2⟩
    | elem hh g sz i off =>
      obtain ⟨ad', e0, hv⟩ := hv
      refine ⟨ad', e0, fun hvl => ?_⟩
      obtain ⟨w1, w2⟩ := c4 (hh, g) (by simp [V.refs1]) sz hvl
      obtain ⟨ad, l, c, e1, e2⟩ := hv w1
      exact ⟨ad, l, c, w2.trans e1, e2⟩
  | srf hh g sz off len =>
    obtain ⟨a', c', e1, e2, e3, e4, hv⟩ := hv
    refine ⟨a', c', e1, e2, e3, e4, fun hvl => ?_⟩
    obtain ⟨w1, w2⟩ := c4 (hh, g) (by simp [V.refs1]) sz hvl
    obtain ⟨a, l, c, f1, f2⟩ := hv w1
    exact ⟨a, l, c, w2.trans f1, f2⟩
  | asl r len =>
    cases r with
    | obj o off => obtain ⟨c, g1, g2, g3⟩ := hv; obtain ⟨e1, e2⟩ := c3' o off len rfl g3; simp only [RelV]; rw [e1]; exact ⟨c, g1, g2, e2⟩
    | elem hh g sz i off =>
      obtain ⟨ad', c', e1, e2, es, hv⟩ := hv
      refine ⟨ad', c', e1, e2, es, fun hvl => ?_⟩
      obtain ⟨w1, w2⟩ := c4 (hh, g) (by simp [V.refs1]) sz hvl
      obtain ⟨ad, l, c, f1, f2⟩ := hv w1
      exact ⟨ad, l, c, w2.trans f1, f2⟩
  | iptr cs =>
    obtain ⟨ad, h1, hs, h2⟩ := hv
    refine ⟨ad, h1, hs, fun j v hj => ?_⟩
    obtain ⟨e0, y, e1, e2, e3⟩ := h2 j v hj
    exact ⟨e0, y, (c1 _ _ e1).1, (c1 _ _ e1).2.trans e2, e3.mono c1⟩
  | gone g => trivial
  | func f cs => exact RelC.mono c1 hv c3
  | map o => obtain ⟨e1, e2⟩ := c3 o (by simp [V.objIds]) hv.2; simp only [RelV] at hv ⊢; rw [e1]; exact ⟨hv.1, e2⟩
  | agg cs => exact hv.elim
  | tup vs => exact hv.elim
  | bool b => exact RelI.mono c1 hv
  | int k n => exact RelI.mono c1 hv
  | str s => exact RelI.mono c1 hv
  | nil => exact RelI.mono c1 hv
  | isl g sz es => exact RelI.mono c1 hv
  | nilS sz => exact RelI.mono c1 hv
  | nilf => exact RelI.mono c1 hv
  | nilm => exact RelI.mono c1 hv
  | iface t v => exact RelI.mono c1 hv
  | nili => exact RelI.mono c1 hv
end Go.Vq
namespace Go.Vq
theorem getD_append_left {α : Type} (l m : List α) (d : α) (i : Nat) (h : i < l.length) : (l ++ m).getD i d = l.getD i d := by
  simp [List.getD, List.getElem?_append_left h]
theorem getD_of_getElem? {α : Type} {l : List α} {d x : α} {i : Nat} (h : l[i]? = some x) : l.getD i d = x := by simp [List.getD, h]
theorem lt_of_getElem? {α : Type} {l : List α} {x : α} {i : Nat} (h : l[i]? = some x) : i < l.length := by
  rcases Nat.lt_or_ge i l.length with h1 | h1
  · exact h1
  · simp [List.getElem?_eq_none h1] at h
theorem exists_getElem? {α : Type} {l : List α} {i : Nat} (h : i < l.length) : ∃ x, l[i]? = some x := ⟨l[i], List.getElem?_eq_getElem h⟩
theorem getElem?_append_one {α : Type} {l : List α} {v x : α} {s : Nat} (h : (l ++ [v])[s]? = some x) : (s < l.length ∧ l[s]? = some x) ∨ (s = l.length ∧ x = v) := by
  rcases Nat.lt_trichotomy s l.length with h1 | h1 | h1
  · rw [List.getElem?_append_left h1] at h; exact .inl ⟨h1, h⟩
  · subst h1; simp at h; exact .inr ⟨rfl, h.symm⟩
  · rw [List.getElem?_eq_none (by simp; omega)] at h; cases h
@[simp] theorem leaves_gone (g : Nat) : (V.gone g).leaves = [.gone g] := rfl
theorem ct_slot_big {slots : List V} {objs : List (Option Obj)} {s i : Nat} {u : V} (h : slots.length ≤ s) (hu : ct slots objs (.slot s i) = some u) : u = .gone 0 := by
  simp only [ct, List.getD, List.getElem?_eq_none h, Option.getD_none, leaves_gone] at hu
  cases i with
  | zero => simpa using hu.symm
  | succ i => simp at hu
theorem ct_append_left (slots l : List V) (objs : List (Option Obj)) (s i : Nat) (h : s < slots.length) : ct (slots ++ l) objs (.slot s i) = ct slots objs (.slot s i) := by
  simp only [ct, getD_append_left _ _ _ _ h]
theorem hd_append_left (E : Env) (vals l : List Value) (H : Array Go.Obj) (s i : Nat) (h : s < vals.length) : hd E (vals ++ l) H (.slot s i) = hd E vals H (.slot s i) := by
  simp only [hd, List.getElem?_append_left h]
theorem ct_set (slots : List V) (objs : List (Option Obj)) (t : Nat) (v : V) (s i : Nat) (ht : t < slots.length) :
    ct (slots.set t v) objs (.slot s i) = if s = t then v.leaves[i]? else ct slots objs (.slot s i) := by
  simp only [ct, List.getD, List.getElem?_set]
  by_cases h : t = s
  · subst h; simp [ht]
  · have h' : ¬ s = t := fun e => h e.symm
    simp [h, h']
theorem hd_set (E : Env) (vals : List Value) (H : Array Go.Obj) (t : Nat) (x : Value) (s i : Nat) (ht : t < vals.length) :
    hd E (vals.set t x) H (.slot s i) = if s = t then (vleaves x)[i]? else hd E vals H (.slot s i) := by
  simp only [hd, List.getElem?_set]
  by_cases h : t = s
  · subst h; simp [ht]
  · have h' : ¬ s = t := fun e => h e.symm
    simp [h, h']
theorem ct_getElem? {slots : List V} {objs : List (Option Obj)} {s : Nat} {v : V} (h : slots[s]? = some v) (i : Nat) : ct slots objs (.slot s i) = v.leaves[i]? := by
  simp only [ct, getD_of_getElem? h]
def HomesKept (n : Nat) (E : Env) (slots : List V) (objs : List (Option Obj)) (vals : List Value) (H : Array Go.Obj)
    (E' : Env) (slots' : List V) (objs' : List (Option Obj)) (vals' : List Value) (H' : Array Go.Obj) : Prop :=
  ∀ h u, (∀ t i, h = .slot t i → t < n) → ct slots objs h = some u → 0 < u.nextg → ∃ u', ct slots' objs' h = some u' ∧ u.nextg ≤ u'.nextg ∧
    ((u'.gen? = u.gen? ∧ hd E' vals' H' h = hd E vals H h) ∨ ∀ g sz, u'.gen? = some (g, sz) → u.nextg ≤ g)
section
variable {n : Nat} {E E' : Env} {slots slots' : List V} {objs objs' : List (Option Obj)} {vals vals' : List Value} {H H' : Array Go.Obj}
theorem HomesKept.c4 (hk : HomesKept n E slots objs vals H E' slots' objs' vals' H') {r : Home × Nat}
    (hr : (∀ t i, r.1 = .slot t i → t < n) ∧ ∃ u, ct slots objs r.1 = some u ∧ r.2 < u.nextg) (sz : Nat) (hv : valid slots' objs' r.1 r.2 sz) :
    valid slots objs r.1 r.2 sz ∧ hd E' vals' H' r.1 = hd E vals H r.1 := by
  obtain ⟨hn, u, hu, hlt⟩ := hr
  obtain ⟨u', hu', hg'⟩ := hv
  obtain ⟨w, hw, _, h | h⟩ := hk r.1 u hn hu (by omega)
  · rw [hu'] at hw; cases hw
    exact ⟨⟨u, hu, h.1 ▸ hg'⟩, h.2⟩
  · rw [hu'] at hw; cases hw
    have := h _ _ hg'; omega
theorem HomesKept.bound (hk : HomesKept n E slots objs vals H E' slots' objs' vals' H') {r : Home × Nat}
    (hr : (∀ t i, r.1 = .slot t i → t < n) ∧ ∃ u, ct slots objs r.1 = some u ∧ r.2 < u.nextg) : ∃ u, ct slots' objs' r.1 = some u ∧ r.2 < u.nextg := by
  obtain ⟨hn, u, hu, hlt⟩ := hr
  obtain ⟨w, hw, hle, _⟩ := hk r.1 u hn hu (by omega)
  exact ⟨w, hw, by omega⟩
theorem mem_refs {v u : V} {i : Nat} {r : Home × Nat} (h : v.leaves[i]? = some u) (hr : r ∈ u.refs1) : r ∈ v.refs := by
  simp only [V.refs, List.mem_flatMap]
  exact ⟨u, List.mem_of_getElem? h, hr⟩
theorem Core.leaf (hC : Core n E slots objs vals H) (hk : HomesKept n E slots objs vals H E' slots' objs' vals' H') (c1 : ∀ b i, E.imm b i → E'.imm b i ∧ cellAt H' b i = cellAt H b i)
    (ca : E'.addr = E.addr) {s i : Nat} {v u : V} {x y : Value} {h' : Home}
    (hs : slots[s]? = some v) (hx : vals[s]? = some x) (hu : v.leaves[i]? = some u) (hy : (vleaves x)[i]? = some y)
    (c2 : u.own = true → ∀ b, E.tag b = .home (.slot s i) → E'.tag b = .home h' ∧ H'[b]? = H[b]?)
    (c2' : u.own = true → ∀ b n, E.tag b = .tail (.slot s i) n → E'.tag b = .tail h' n ∧ H'[b]? = H[b]?)
    (cal : ∀ o, alive objs o → alive objs' o := by first | exact fun _ h => h | exact fun _ h => alive_setObjs' h | exact fun _ h => alive_set h) : RelV E' slots' objs' vals' H' h' u y :=
  ((hC.slot s v x hs hx).2 i u y hu hy).move c1 c2 c2' (fun o _ h => ⟨by rw [ca], cal o h⟩) (fun o _ _ _ h => ⟨by rw [ca], cal o h⟩) fun r hr sz hvl =>
    hk.c4 (hC.refs s v hs r (mem_refs hu hr)) sz hvl
theorem Core.objKept (hC : Core n E slots objs vals H) (c1 : ∀ b i, E.imm b i → E'.imm b i ∧ cellAt H' b i = cellAt H b i)
    (ca : E'.addr = E.addr) {o : Nat} {cs : List V} (ho : objs[o]? = some (some (.cells cs)))
    (c0 : E.tag (E.addr o) = .obj o → E'.tag (E.addr o) = .obj o ∧ H'[E.addr o]? = H[E.addr o]?)
    (c2 : ∀ i u, cs[i]? = some u → u.own = true → ∀ b, E.tag b = .home (.obj o i) → E'.tag b = .home (.obj o i) ∧ H'[b]? = H[b]?)
    (c2' : ∀ i u, cs[i]? = some u → u.own = true → ∀ b n, E.tag b = .tail (.obj o i) n → E'.tag b = .tail (.obj o i) n ∧ H'[b]? = H[b]?)
    (cal : ∀ o, alive objs o → alive objs' o := by first | exact fun _ h => h | exact fun _ h => alive_setObjs' h | exact fun _ h => alive_set h) :
    ∃ arr T f, H'[E'.addr o]? = some (.cells arr T f) ∧ E'.tag (E'.addr o) = .obj o ∧ arr.size = cs.length ∧ open_ f arr.size ∧
      (∀ (i : Nat) (u : V) (y : Value), cs[i]? = some u → arr[i]? = some y → RelV E' slots' objs' vals' H' (.obj o i) u y) ∧ ∀ u ∈ cs, u.inObj = true := by
  obtain ⟨arr, T, f, h1, h2, h3, h4, h5, h6⟩ := hC.obj o cs ho
  refine ⟨arr, T, f, ?_, ?_, h3, h4, fun i u y hu hy => ?_, h6⟩
  · rw [ca, (c0 h2).2]; exact h1
  · rw [ca]; exact (c0 h2).1
  · refine (h5 i u y hu hy).move c1 (fun ho b => c2 i u hu ho b) (fun ho b => c2' i u hu ho b) (fun o _ h => ⟨by rw [ca], cal o h⟩) (fun o _ _ _ h => ⟨by rw [ca], cal o h⟩) fun r hr => ?_
    rw [V.inObj_refs1 (h6 u (List.mem_of_getElem? hu))] at hr; cases hr
theorem HomesKept.push (hC : Core n E slots objs vals H) (v : V) (x : Value) : HomesKept n E slots objs vals H E (slots ++ [v]) objs (vals ++ [x]) H := by
  intro h u _ hu hp
  refine ⟨u, ?_, Nat.le_refl _, .inl ⟨rfl, ?_⟩⟩
  · cases h with
    | slot s i =>
      rcases Nat.lt_or_ge s slots.length with hs | hs
      · rw [ct_append_left _ _ _ _ _ hs]; exact hu
      · have := ct_slot_big hs hu; subst this; simp [V.nextg] at hp
    | obj o i => exact hu
  · cases h with
    | slot s i =>
      rcases Nat.lt_or_ge s slots.length with hs | hs
      · exact hd_append_left _ _ _ _ _ _ (hC.len ▸ hs)
      · have := ct_slot_big hs hu; subst this; simp [V.nextg] at hp
    | obj o i => rfl
theorem Core.push (hC : Core n E slots objs vals H) {v : V} {x : Value} (hv : SlotRel E (slots ++ [v]) objs (vals ++ [x]) H slots.length v x)
    (hr : ∀ r ∈ v.refs, (∀ t i, r.1 = .slot t i → t < n) ∧ ∃ u, ct slots objs r.1 = some u ∧ r.2 < u.nextg) : Core n E (slots ++ [v]) objs (vals ++ [x]) H := by
  have hk := HomesKept.push hC v x
  refine ⟨by simp [hC.len], by have := hC.real; simp; omega, fun s u y hs hy => ?_, fun o cs ho => ?_, hC.fresh, fun s u hs r hr' => ?_⟩
  · rcases getElem?_append_one hs with ⟨h1, h2⟩ | ⟨h1, h2⟩
    · rw [List.getElem?_append_left (hC.len ▸ h1)] at hy
      exact ⟨(hC.slot s u y h2 hy).1, fun i u' y' hu hy' => hC.leaf hk (fun _ _ h => ⟨h, rfl⟩) rfl h2 hy hu hy' (fun _ _ h => ⟨h, rfl⟩) (fun _ _ _ h => ⟨h, rfl⟩)⟩
    · subst h1 h2
      rw [hC.len, List.getElem?_append_right (Nat.le_refl _)] at hy
      simp at hy; subst hy
      exact hv
  · exact hC.objKept (fun _ _ h => ⟨h, rfl⟩) rfl ho (fun h => ⟨h, rfl⟩) (fun _ _ _ _ _ h => ⟨h, rfl⟩) (fun _ _ _ _ _ _ h => ⟨h, rfl⟩)
  · rcases getElem?_append_one hs with ⟨h1, h2⟩ | ⟨h1, h2⟩
    · have := hC.refs s u h2 r hr'
      exact ⟨this.1, hk.bound this⟩
    · subst h2
      exact ⟨(hr r hr').1, hk.bound (hr r hr')⟩
theorem Core.pop {v : V} {x : Value} (hC : Core n E (slots ++ [v]) objs (vals ++ [x]) H) (hn : n ≤ slots.length) : Core n E slots objs vals H := by
  have hl : slots.length = vals.length := by have := hC.len; simpa using this
  have hk : HomesKept n E (slots ++ [v]) objs (vals ++ [x]) H E slots objs vals H := by
    intro h u hh hu hp
    refine ⟨u, ?_, Nat.le_refl _, .inl ⟨rfl, ?_⟩⟩
    · cases h with
      | slot s i => rw [ct_append_left _ _ _ _ _ (by have := hh s i rfl; omega)] at hu; exact hu
      | obj o i => exact hu
    · cases h with
      | slot s i => exact (hd_append_left _ _ _ _ _ _ (by have := hh s i rfl; omega)).symm
      | obj o i => rfl
  refine ⟨hl, hn, fun s u y hs hy => ?_, fun o cs ho => ?_, hC.fresh, fun s u hs r hr => ?_⟩
  · have h1 := lt_of_getElem? hs
    have hs' : (slots ++ [v])[s]? = some u := by rw [List.getElem?_append_left h1]; exact hs
    have hy' : (vals ++ [x])[s]? = some y := by rw [List.getElem?_append_left (hl ▸ h1)]; exact hy
    exact ⟨(hC.slot s u y hs' hy').1, fun i u' y' hu hy2 => hC.leaf hk (fun _ _ h => ⟨h, rfl⟩) rfl hs' hy' hu hy2 (fun _ _ h => ⟨h, rfl⟩) (fun _ _ _ h => ⟨h, rfl⟩)⟩
  · exact hC.objKept (fun _ _ h => ⟨h, rfl⟩) rfl ho (fun h => ⟨h, rfl⟩) (fun _ _ _ _ _ h => ⟨h, rfl⟩) (fun _ _ _ _ _ _ h => ⟨h, rfl⟩)
  · have hs' : (slots ++ [v])[s]? = some u := by rw [List.getElem?_append_left (lt_of_getElem? hs)]; exact hs
    have := hC.refs s u hs' r hr
    exact ⟨this.1, hk.bound this⟩
def Env.retag (E : Env) (f : Home → Home) : Env := { E with tag := fun b => match E.tag b with | .home h => .home (f h) | .tail h m => .tail (f h) m | t => t }
theorem Env.retag_imm (E : Env) (f : Home → Home) : (E.retag f).imm = E.imm := by
  funext b i
  simp only [Env.imm, Env.retag]
  cases E.tag b <;> rfl
theorem Env.retag_home {E : Env} {f : Home → Home} {b : Nat} {h : Home} (hb : E.tag b = .home h) : (E.retag f).tag b = .home (f h) := by simp [Env.retag, hb]
theorem Env.retag_tail {E : Env} {f : Home → Home} {b m : Nat} {h : Home} (hb : E.tag b = .tail h m) : (E.retag f).tag b = .tail (f h) m := by simp [Env.retag, hb]
theorem Env.retag_obj {E : Env} {f : Home → Home} {b o : Nat} (hb : E.tag b = .obj o) : (E.retag f).tag b = .obj o := by simp [Env.retag, hb]
theorem Env.retag_other {E : Env} {f : Home → Home} {b : Nat} (hb : E.tag b = .other) : (E.retag f).tag b = .other := by simp [Env.retag, hb]
theorem Env.retag_immTag {E : Env} {f : Home → Home} {b : Nat} (hb : E.tag b = .imm) : (E.retag f).tag b = .imm := by simp [Env.retag, hb]
theorem Env.retag_c1 (E : Env) (f : Home → Home) (H : Array Go.Obj) : ∀ b i, E.imm b i → (E.retag f).imm b i ∧ cellAt H b i = cellAt H b i := by
  intro b i h; rw [Env.retag_imm]; exact ⟨h, rfl⟩
def mv (t N : Nat) : Home → Home
  | .slot s i => if s = t then .slot N i else .slot s i
  | h => h
theorem RelV.leaf {h : Home} {v : V} {x : Value} (hv : RelV E slots objs vals H h v x) : v.leaf = true := by
  cases v <;> first | rfl | exact hv.elim
theorem shape1_len {v : V} {x : Value} (h : Shape1 v x) : v.cells.length = (vcells x).length := by
  by_cases hv : v.leaf = true
  · rw [cells_leaf hv, vcells_leaf ((shape1_leaf hv).1 h)]; rfl
  · cases v with
    | agg cs => obtain ⟨xs, rfl, h⟩ := h; simpa [V.cells, vcells, Value.cells] using h
    | tup vs => exact h.elim
    | _ => exact absurd rfl hv
theorem flat_len : ∀ (vs : List V) (xs : List Value), vs.length = xs.length → (∀ (i : Nat) (v : V) (x : Value), vs[i]? = some v → xs[i]? = some x → Shape1 v x) →
    (vs.flatMap V.cells).length = (xs.flatMap vcells).length
  | [], [], _, _ => rfl
  | [], _ :: _, h, _ => by simp at h
  | _ :: _, [], h, _ => by simp at h
  | v :: vs, x :: xs, h, hs => by
    have h1 := shape1_len (hs 0 v x rfl rfl)
    have h2 := flat_len vs xs (by simpa using h) fun i v x a b => hs (i + 1) v x a b
    rw [List.flatMap_cons, List.flatMap_cons, List.length_append, List.length_append, h1, h2]
theorem shape_len {v : V} {x : Value} (h : Shape v x) (hg : ∀ g, v ≠ .gone g) : v.leaves.length = (vleaves x).length := by
  by_cases hv : v.leaf = true
  · rw [leaves_leaf hv, vleaves_leaf (leaf_shape hv hg h)]; rfl
  · cases v with
    | agg cs => obtain ⟨xs, rfl, h⟩ := h; simpa [V.leaves, vleaves] using h
    | tup vs =>
      obtain ⟨xs, rfl, h1, h2⟩ := h
      exact flat_len _ _ (by simpa using h1) fun i v x a b => h2 i v x a (by simpa using b)
    | _ => exact absurd rfl hv
theorem SlotRel.leafs {s : Nat} {v : V} {x : Value} (h : SlotRel E slots objs vals H s v x) : ∀ u ∈ v.leaves, u.leaf = true := by
  intro u hu
  by_cases hg : ∃ g, v = .gone g
  · obtain ⟨g, rfl⟩ := hg; simp at hu; subst hu; rfl
  · have hl := shape_len h.1 fun g e => hg ⟨g, e⟩
    obtain ⟨i, hi, rfl⟩ := List.getElem_of_mem hu
    exact (h.2 i _ (vleaves x)[i] (List.getElem?_eq_getElem hi) (List.getElem?_eq_getElem (by omega))).leaf
theorem not_leaf_agg {v : V} (h : ¬ v.leaf = true) : (∃ cs, v = .agg cs) ∨ ∃ vs, v = .tup vs := by
  cases v with
  | agg cs => exact .inl ⟨cs, rfl⟩
  | tup vs => exact .inr ⟨vs, rfl⟩
  | _ => exact absurd rfl h
def partsOk (vs : List V) : Prop := ∀ v ∈ vs, v.leaf = true ∨ ∃ cs, v = .agg cs
theorem layTup_flat : ∀ (vs ls : List V), partsOk vs → ls.length = (vs.flatMap V.cells).length → (∀ u ∈ ls, u.leaf = true) → (layTup vs ls).flatMap V.cells = ls
  | [], ls, _, h, _ => by simp at h; subst h; rfl
  | v :: vs, ls, hp, h, hl => by
    have ih := layTup_flat vs
    have hp' : partsOk vs := fun v hv => hp v (List.mem_cons_of_mem _ hv)
    rw [List.flatMap_cons, List.length_append] at h
    rcases hp v (List.mem_cons_self ..) with hv | ⟨cs, rfl⟩
    · rw [cells_leaf hv] at h
      cases ls with
      | nil => simp at h; omega
      | cons u ls =>
        rw [layTup_leaf hv]
        simp only [List.headD_cons, List.drop_succ_cons, List.drop_zero, List.flatMap_cons]
        rw [ih ls hp' (by simp at h ⊢; omega) fun w hw => hl w (List.mem_cons_of_mem _ hw), cells_leaf (hl u (List.mem_cons_self ..))]
        rfl
    · simp only [layTup, List.flatMap_cons]
      rw [ih _ hp' (by simp only [V.cells] at h; rw [List.length_drop]; omega) fun u hu => hl u (List.mem_of_mem_drop hu)]
      simp [V.cells]
theorem layTup_len : ∀ (vs ls : List V), partsOk vs → (layTup vs ls).length = vs.length
  | [], _, _ => rfl
  | v :: vs, ls, hp => by
    have ih := fun ls => layTup_len vs ls fun v hv => hp v (List.mem_cons_of_mem _ hv)
    rcases hp v (List.mem_cons_self ..) with hv | ⟨cs, rfl⟩
    · rw [layTup_leaf hv]; simp [ih]
    · simp [layTup, ih]
theorem layTup_shape : ∀ (vs ls : List V) (xs : List Value), partsOk vs → ls.length = (vs.flatMap V.cells).length → (∀ u ∈ ls, u.leaf = true) → (∀ (i : Nat) (v : V) (x : Value), vs[i]? = some v → xs[i]? = some x → Shape1 v x) →
    ∀ (i : Nat) (v : V) (x : Value), (layTup vs ls)[i]? = some v → xs[i]? = some x → Shape1 v x
  | [], _, _, _, _, _, _ => by intro i v x h; simp [layTup] at h
  | w :: vs, ls, xs, hp, hn, hl, h => by
    intro i v x hv hx
    have ih := layTup_shape vs
    have hp' : partsOk vs := fun v hv => hp v (List.mem_cons_of_mem _ hv)
    rw [List.flatMap_cons, List.length_append] at hn
    rcases hp w (List.mem_cons_self ..) with hw | ⟨cs, rfl⟩
    · rw [cells_leaf hw] at hn
      rw [layTup_leaf hw] at hv
      cases ls with
      | nil => simp at hn; omega
      | cons u ls =>
        cases i with
        | zero =>
          simp only [List.headD_cons, List.getElem?_cons_zero, Option.some.injEq] at hv; subst hv
          exact (shape1_leaf (hl u (List.mem_cons_self ..))).2 ((shape1_leaf hw).1 (h 0 w x rfl hx))
        | succ i =>
          cases xs with
          | nil => simp at hx
          | cons y xs =>
            exact ih ls xs hp' (by simp at hn ⊢; omega) (fun w hw => hl w (List.mem_cons_of_mem _ hw)) (fun i v x a b => h (i + 1) v x a b) i v x hv hx
    · simp only [layTup] at hv
      cases i with
      | zero =>
        simp only [List.getElem?_cons_zero, Option.some.injEq] at hv; subst hv
        obtain ⟨ys, e1, e2⟩ := h 0 _ x rfl hx
        exact ⟨ys, e1, by simp only [V.cells] at hn; rw [List.length_take]; omega⟩
      | succ i =>
        cases xs with
        | nil => simp at hx
        | cons y xs =>
          exact ih (ls.drop cs.length) xs hp' (by simp only [V.cells] at hn; rw [List.length_drop]; omega) (fun u hu => hl u (List.mem_of_mem_drop hu)) (fun i v x a b => h (i + 1) v x a b) i v x hv hx
def V.formed (v : V) : Prop := match v with | .tup vs => partsOk vs | _ => True
theorem SlotRel.formed {s : Nat} {v : V} {x : Value} (h : SlotRel E slots objs vals H s v x) : v.formed := by
  cases v with
  | tup vs =>
    obtain ⟨xs, _, h1, h2⟩ := h.1
    intro v hv
    obtain ⟨i, hi, rfl⟩ := List.getElem_of_mem hv
    have := h2 i _ xs[i] (List.getElem?_eq_getElem hi) (Array.getElem?_eq_getElem (by omega))
    by_cases hl : vs[i].leaf = true
    · exact .inl hl
    · rcases not_leaf_agg hl with h | ⟨us, h⟩
      · exact .inr h
      · rw [h] at this; exact this.elim
  | _ => trivial
theorem withLeaves_leaves {v : V} {ls : List V} (hf : v.formed) (h : ls.length = v.leaves.length) (hl : ∀ u ∈ ls, u.leaf = true) : (v.withLeaves ls).leaves = ls := by
  by_cases hv : v.leaf = true
  · rw [withLeaves_leaf hv]
    rw [leaves_leaf hv] at h
    cases ls with
    | nil => simp at h
    | cons u ls =>
      have : ls = [] := by cases ls with | nil => rfl | cons => simp at h
      subst this
      exact leaves_leaf (hl u (List.mem_cons_self ..))
  · rcases not_leaf_agg hv with ⟨cs, rfl⟩ | ⟨vs, rfl⟩
    · rfl
    · exact layTup_flat _ _ hf h hl
theorem withLeaves_shape {v : V} {ls : List V} {x : Value} (hf : v.formed) (h : ls.length = v.leaves.length) (hl : ∀ u ∈ ls, u.leaf = true) (hs : Shape v x) (hg : ∀ g, v ≠ .gone g) : Shape (v.withLeaves ls) x := by
  by_cases hv : v.leaf = true
  · rw [withLeaves_leaf hv]
    rw [leaves_leaf hv] at h
    cases ls with
    | nil => simp at h
    | cons u ls => exact shape_leaf (hl u (List.mem_cons_self ..)) (leaf_shape hv hg hs)
  · rcases not_leaf_agg hv with ⟨cs, rfl⟩ | ⟨vs, rfl⟩
    · obtain ⟨xs, e1, e2⟩ := hs
      exact ⟨xs, e1, by rw [h]; exact e2⟩
    · obtain ⟨xs, e1, e2, e3⟩ := hs
      refine ⟨xs, e1, by rw [layTup_len _ _ hf]; exact e2, fun i v x a b => ?_⟩
      exact layTup_shape vs ls xs.toList hf h hl (fun i v x a b => e3 i v x a (by simpa using b)) i v x a (by simpa using b)
end
end Go.Vq
