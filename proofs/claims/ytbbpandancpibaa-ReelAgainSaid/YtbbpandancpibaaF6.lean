/- A machine of values and its tie to the model, and runs of it: part 6 of 18 (no law of Go is stated here). -/
import Derived.Test.YtbbpandancpibaaF5
import Derived.Laws.BitsLemmas
import Derived.Laws.Tables
import Derived.Laws.Rows
import Derived.Laws.Slices
import Derived.Laws.Strings2
import Derived.Laws.Append
import Derived.Laws.AppendOwn
set_option linter.unusedVariables false
set_option linter.unusedSimpArgs false
set_option linter.unusedSectionVars false
namespace Go.Vq
section
variable {P : Program} {n base : Nat} {E E' : Env} {σ σ' : St} {hs : List V} {ts xs : List Value} {H H' : Array Go.Obj}
variable {callee : Callee} {o : Oper} {a : Act} {w : World} {next : Act → World → Prop} {Q : Exit → Act → World → Prop}
theorem freeze1_plain {imm : Nat → Nat → Prop} {v : V} {x : Value} (h : RelI imm H v x) (hp : v.plain = true) : RelI imm H (freeze1 v) x ∧ (freeze1 v).leaf = true := by
  cases v <;> first | (simp [V.plain] at hp; done) | exact ⟨h, rfl⟩ | skip
  cases h
  refine ⟨.isl 0 _ [] none 0 (fun _ _ => undef) (by simp) (fun _ => rfl) (fun _ h => by cases h) (fun _ h => by cases h) (fun _ _ _ _ _ h => by cases h) (fun _ _ _ _ h => by simp at h), rfl⟩
theorem zeroOf_ok {t : TypeId} {zs : List V} (hz : zeroOf P t = some zs) : ∃ inf z, P.info? t = some inf ∧ inf.zero = some z ∧ zs.length = z.cells.size ∧
    ∀ (i : Nat) (v : V) (x : Value), zs[i]? = some v → z.cells[i]? = some x → v.plain = true ∧ ∀ (imm : Nat → Nat → Prop) (H : Array Go.Obj), RelI imm H v x := by
  unfold zeroOf at hz
  simp only [Option.bind_eq_bind] at hz
  obtain ⟨inf, hi, hz⟩ := Option.bind_eq_some_iff.1 hz
  obtain ⟨z, hz1, hz⟩ := Option.bind_eq_some_iff.1 hz
  obtain ⟨tys, _, hz⟩ := Option.bind_eq_some_iff.1 hz
  obtain ⟨h1, h2⟩ := valsOf_rel hz
  refine ⟨inf, z, hi, hz1, by simpa using h1, fun i v x hv hx => ?_⟩
  obtain ⟨t', ht'⟩ := h2 i v x hv (by simpa using hx)
  exact ⟨valOf_plain ht', (valOf_rel ht').2.2.2.2.2⟩
theorem zeroElem {t : TypeId} {zs : List V} {agg : Bool} {e : V} (hz : zeroOf P t = some zs) (he : ofCells agg (zs.map freeze1) = some e) : e.cells = zs.map freeze1 ∧ ∀ u ∈ e.cells, u.leaf = true := by
  obtain ⟨inf, z, _, _, h1, h2⟩ := zeroOf_ok hz
  have hl : ∀ u ∈ zs.map freeze1, u.leaf = true := by
    intro u hu
    obtain ⟨v, hv, rfl⟩ := List.mem_map.1 hu
    obtain ⟨i, hi, rfl⟩ := List.getElem_of_mem hv
    obtain ⟨p, r⟩ := h2 i _ _ (List.getElem?_eq_getElem hi) (Array.getElem?_eq_getElem (h1 ▸ hi))
    exact (freeze1_plain (r (fun _ _ => True) #[]) p).2
  suffices h : e.cells = zs.map freeze1 by exact ⟨h, by rw [h]; exact hl⟩
  cases agg with
  | true => simp only [ofCells, if_true, Option.some.injEq] at he; subst he; rfl
  | false =>
    simp only [ofCells, Bool.false_eq_true, if_false] at he
    split at he
    · rename_i u0 hv
      cases he
      rw [hv]
      exact cells_leaf (hl e (by rw [hv]; exact List.mem_singleton.2 rfl))
    · cases he
def zrow (zero : Array Value) (m : Nat) : Array Value := (Array.range m).map (zero[· % zero.size]!)
theorem zrow_get {zero : Array Value} {m k : Nat} (h : k < m) (hz : 0 < zero.size) : ∃ x, (zrow zero m)[k]? = some x ∧ zero[k % zero.size]? = some x := by
  have hlt := Nat.mod_lt k hz
  refine ⟨zero[k % zero.size], ?_, Array.getElem?_eq_getElem hlt⟩
  rw [zrow, Array.getElem?_map, Array.getElem?_range, if_pos h]
  simp [getElem!_pos zero (k % zero.size) hlt]
theorem zrow_size (zero : Array Value) (m : Nat) : (zrow zero m).size = m := by simp [zrow]
theorem zeroRel {t : TypeId} {zs : List V} {agg : Bool} {e : V} {inf : TypeInfo} {z : Value} (hz : zeroOf P t = some zs) (he : ofCells agg (zs.map freeze1) = some e) (hi : P.info? t = some inf) (hzv : inf.zero = some z) {m i j : Nat} {v : V} (hm : i < m)
    (hv : e.cells[j]? = some v) (imm : Nat → Nat → Prop) (H : Array Go.Obj) : ∃ x, (zrow z.cells (m * zs.length))[i * zs.length + j]? = some x ∧ RelI imm H v x := by
  obtain ⟨inf', z', hi', hz', h1, h2⟩ := zeroOf_ok hz
  rw [hi] at hi'; cases hi'
  rw [hzv] at hz'; cases hz'
  obtain ⟨c1, _⟩ := zeroElem hz he
  rw [c1] at hv
  have hj : j < zs.length := by simpa using lt_of_getElem? hv
  have hrow : (i + 1) * zs.length ≤ m * zs.length := Nat.mul_le_mul_right _ hm
  rw [Nat.add_mul] at hrow
  obtain ⟨x, e1, e2⟩ := zrow_get (zero := z.cells) (m := m * zs.length) (k := i * zs.length + j) (by omega) (by omega)
  rw [← h1, Nat.add_comm, Nat.add_mul_mod_self_right, Nat.mod_eq_of_lt hj] at e2
  refine ⟨x, e1, ?_⟩
  rw [List.getElem?_map] at hv
  obtain ⟨v0, hv0, rfl⟩ := Option.map_eq_some_iff.1 hv
  obtain ⟨p, r⟩ := h2 j v0 x hv0 e2
  exact (freeze1_plain (r imm H) p).1
theorem cellAt_pushed {H : Array Go.Obj} {arr : Array Value} {T : TypeId} {f : Nat × Nat} (i : Nat) : cellAt (H.push (.cells arr T f)) H.size i = arr[i]? := by simp [cellAt]
theorem op_makeSlice {t e : TypeId} {l c : Operand} {l' c' : Opd} {sz bytes : Nat} {zs : List V} {agg : Bool} {zero : V} (ho : o.op = .makeSlice t l c) (ht : under P t = some (.slice e)) (hs : szOf P e = some sz) (hb : bytesOf P e = some bytes)
    (hz : zeroOf P e = some zs) (hzl : zs.length = sz) (hsz : sz ≠ 0) (hzero : ofCells agg (zs.map freeze1) = some zero) (hl : opd0 l = some l') (hc : opd0 c = some c') (hC : CoreS n E σ [] a.tmps.toList [] w.heap)
    (hr : (opProg callee base o.dst (.makeSlice sz bytes zero l' c')).run σ = some σ') (K : NextOk n base E σ' a w next) : o.upon P a next Q ((execOp a.eval o).run P w) := by
  obtain ⟨k1, m, hm, hr⟩ := gInt_sound hC (opd0_ok a hl) hr
  obtain ⟨k2, q, hq, hr⟩ := gInt_sound hC (opd0_ok a hc) hr
  rw [Prog.run_ite] at hr
  split at hr
  · rename_i hcnd
    obtain ⟨g1, g2, g3, g4⟩ := hcnd
    obtain ⟨inf, z, hi, hz1, h1, h2⟩ := zeroOf_ok hz
    have hinf : inf.size = sz := by simp only [szOf, hi, Option.map_some, Option.some.injEq] at hs; exact hs
    have hby : inf.bytes = bytes := by simp only [bytesOf, hi, Option.map_some, Option.some.injEq] at hb; exact hb
    obtain ⟨c1, c2⟩ := zeroElem hz hzero
    subst hzl
    have hC1 := hC.newBlock (cap := q.toNat) (sz := zs.length) (es := List.replicate m.toNat zero) (arr := zrow z.cells (q.toNat * zs.length)) (T := e) (f := (0, 0)) (by simp; omega) (by rw [zrow_size]; exact Nat.le_refl _) (open_00 _) (by
      refine ⟨fun u hu => ?_, fun i u j v h3 h4 => ?_⟩
      · rw [(List.mem_replicate.1 hu).2]
        exact ⟨by rw [c1]; simp, c2⟩
      · have hil := lt_of_getElem? h3
        rw [List.length_replicate] at hil
        rw [List.getElem?_replicate] at h3
        split at h3
        · cases h3
          obtain ⟨x, e1, e2⟩ := zeroRel hz hzero hi hz1 (m := q.toNat) (i := i) (by omega) h4 (E.setTag w.heap.size (.home (.slot (n + ([] : List V).length) 0))).imm (w.heap.push (.cells (zrow z.cells (q.toNat * zs.length)) e (0, 0)))
          exact ⟨_, x, rfl, by rw [cellAt_pushed]; simpa using e1, e2⟩
        · omega)
    refine value_end (w1 := { w with heap := w.heap.push (.cells (zrow z.cells (q.toNat * zs.length)) e (0, 0)) }) hC1 (Grow.newBlock hC.core.fresh) ⟨rfl, rfl, rfl⟩ hr K ?_
    have w1 : IntKind.i64.wrap m = m := by rw [IntKind.wrap_i64]; omega
    have w2 : IntKind.i64.wrap q = q := by rw [IntKind.wrap_i64]; omega
    have t1 : ¬ (281474976710656 < (bytes : Int) * q) := by rw [Int.mul_comm]; omega
    have t2 : ¬ m < 0 := by omega
    have t3 : ¬ q < m := by omega
    have t4 : ¬ q < 0 := by omega
    simp [execOp, ho, Instr.makeSlice, run_under ht, hm, hq, asInt, asIntOf, typeInfo, hi, hinf, hby, w1, w2, t1, t2, t3, t4, sizeOf, zeroValue, hz1, newRow, hsz]
    by_cases hq0 : q.toNat = 0
    · have : q = 0 := by omega
      subst this
      have hr0 : Array.range 0 = #[] := rfl
      simp [zrow, hr0]
    · have h0 : ¬ q ≤ 0 := by omega
      have h1 : q.toNat * zs.length ≠ 0 := Nat.mul_ne_zero hq0 hsz
      simp [h0, zrow]
      intro h; exact absurd h h1
  · cases hr
end
end Go.Vq
namespace Go.Vq
section
variable {n : Nat} {E : Env} {slots : List V} {objs : List (Option Obj)} {vals : List Value} {H : Array Go.Obj}
theorem Core.join {vs : List V} {ys : List Value} {p : V} {xp : Value} {f : Home → Home} (hC : Core n E (slots ++ vs) objs (vals ++ ys) H) (hn : n ≤ slots.length) (hl : slots.length = vals.length) (hs : Shape p xp)
    (hp : ∀ (j : Nat) (u : V) (y : Value), p.leaves[j]? = some u → (vleaves xp)[j]? = some y → ∃ k i v x, vs[k]? = some v ∧ ys[k]? = some x ∧ v.leaves[i]? = some u ∧ (vleaves x)[i]? = some y ∧ (u.own = true → f (.slot (slots.length + k) i) = .slot slots.length j))
    (hpr : ∀ u ∈ p.leaves, ∃ v ∈ vs, u ∈ v.leaves)
    (f1 : ∀ s i, s < slots.length → f (.slot s i) = .slot s i) (f2 : ∀ o i, f (.obj o i) = .obj o i) :
    Core n (E.retag f) (slots ++ [p]) objs (vals ++ [xp]) H := by
  have c1 := Env.retag_c1 E f H
  have hk : HomesKept n E (slots ++ vs) objs (vals ++ ys) H (E.retag f) (slots ++ [p]) objs (vals ++ [xp]) H := by
    intro h u hh hu _
    refine ⟨u, ?_, Nat.le_refl _, .inl ⟨rfl, ?_⟩⟩
    · cases h with
      | slot s i =>
        have := hh s i rfl
        rw [ct_append_left _ _ _ _ _ (by omega)] at hu ⊢; exact hu
      | obj o i => exact hu
    · cases h with
      | slot s i =>
        have := hh s i rfl
        rw [hd_append_left _ _ _ _ _ _ (by omega), hd_append_left _ _ _ _ _ _ (by omega)]; rfl
      | obj o i => rfl
  refine ⟨by simp [hl], by simp; omega, fun s u y hs' hy => ?_, fun o cs ho => ?_, fun b hb => Env.retag_other (hC.fresh b hb), fun s u hs' r hr => ?_⟩
  · rcases getElem?_append_one hs' with ⟨hlt, hs1⟩ | ⟨rfl, rfl⟩
    · have hs2 : (slots ++ vs)[s]? = some u := by rw [List.getElem?_append_left hlt]; exact hs1
      have hy2 : (vals ++ ys)[s]? = some y := by rw [List.getElem?_append_left (hl ▸ hlt)] at hy ⊢; exact hy
      refine ⟨(hC.slot s u y hs2 hy2).1, fun i w z hw hz => hC.leaf hk c1 rfl hs2 hy2 hw hz (fun _ b hb => ⟨?_, rfl⟩) (fun _ b m hb => ⟨?_, rfl⟩)⟩
      · rw [Env.retag_home hb, f1 _ _ hlt]
      · rw [Env.retag_tail hb, f1 _ _ hlt]
    · have hy1 : y = xp := by rw [hl] at hy; simpa using hy.symm
      subst hy1
      refine ⟨hs, fun j w z hw hz => ?_⟩
      obtain ⟨k, i, v, x, e1, e2, e3, e4, e5⟩ := hp j w z hw hz
      have hs2 : (slots ++ vs)[slots.length + k]? = some v := by rw [List.getElem?_append_right (by omega), Nat.add_sub_cancel_left]; exact e1
      have hy2 : (vals ++ ys)[slots.length + k]? = some x := by rw [List.getElem?_append_right (by omega), hl, Nat.add_sub_cancel_left]; exact e2
      refine hC.leaf hk c1 rfl hs2 hy2 e3 e4 (fun ho b hb => ⟨?_, rfl⟩) (fun ho b m hb => ⟨?_, rfl⟩)
      · rw [Env.retag_home hb, e5 ho]
      · rw [Env.retag_tail hb, e5 ho]
  · exact hC.objKept c1 rfl ho (fun h => ⟨Env.retag_obj h, rfl⟩) (fun _ _ _ _ b hb => ⟨by rw [Env.retag_home hb, f2], rfl⟩) (fun _ _ _ _ b m hb => ⟨by rw [Env.retag_tail hb, f2], rfl⟩)
  · rcases getElem?_append_one hs' with ⟨hlt, hs1⟩ | ⟨rfl, rfl⟩
    · have := hC.refs s u (by rw [List.getElem?_append_left hlt]; exact hs1) r hr
      exact ⟨this.1, hk.bound this⟩
    · rw [V.refs, List.mem_flatMap] at hr
      obtain ⟨w, hw, hr⟩ := hr
      obtain ⟨v, hv, hwv⟩ := hpr w hw
      obtain ⟨k, hk'⟩ := List.mem_iff_getElem?.1 hv
      have := hC.refs (slots.length + k) v (by rw [List.getElem?_append_right (by omega), Nat.add_sub_cancel_left]; exact hk') r (by rw [V.refs, List.mem_flatMap]; exact ⟨w, hwv, hr⟩)
      exact ⟨this.1, hk.bound this⟩
end
section
variable {P : Program} {n base : Nat} {E E' : Env} {σ σ' : St} {hs : List V} {ts xs : List Value} {H H' : Array Go.Obj}
variable {callee : Callee} {o : Oper} {a : Act} {w : World} {next : Act → World → Prop} {Q : Exit → Act → World → Prop}
theorem CoreS.join {vs : List V} {ys : List Value} {p : V} {xp : Value} {f : Home → Home} (hC : CoreS n E σ (hs ++ vs) ts (xs ++ ys) H) (hhs : hs.length = xs.length) (hsp : Shape p xp)
    (hp : ∀ (j : Nat) (u : V) (y : Value), p.leaves[j]? = some u → (vleaves xp)[j]? = some y → ∃ k i v x, vs[k]? = some v ∧ ys[k]? = some x ∧ v.leaves[i]? = some u ∧ (vleaves x)[i]? = some y ∧ (u.own = true → f (.slot (n + hs.length + k) i) = .slot (n + hs.length) j))
    (hpr : ∀ u ∈ p.leaves, ∃ v ∈ vs, u ∈ v.leaves)
    (f1 : ∀ s i, s < n + hs.length → f (.slot s i) = .slot s i) (f2 : ∀ o i, f (.obj o i) = .obj o i) :
    CoreS n (E.retag f) σ (hs ++ [p]) ts (xs ++ [xp]) H := by
  refine ⟨hC.sl, hC.tl, ?_⟩
  have h := hC.core
  have hN : (σ.slots ++ hs).length = n + hs.length := by simp [hC.sl]
  rw [← List.append_assoc, ← List.append_assoc] at h ⊢
  refine h.join (by rw [hN]; omega) (by simp [hC.sl, hC.tl, hhs]) hsp ?_ hpr ?_ f2
  · rw [hN]; exact hp
  · rw [hN]; exact f1
def overHand (N off : Nat) : Home → Home
  | .slot s i => if s = N + 1 then .slot N (off + i) else .slot s i
  | h => h
theorem CoreS.overlay {cs : List V} {arr : Array Value} {v : V} {x : Value} {off : Nat} (hC : CoreS n E σ [.agg cs, v] ts [.agg arr, x] H) (hle : off + v.leaves.length ≤ cs.length) (hx : (vleaves x).length = v.leaves.length) :
    CoreS n (E.retag (overHand n off)) σ [.agg (splice cs off v.leaves)] ts [.agg (setsA arr off (vleaves x))] H := by
  have hlen : cs.length = arr.size := by
    have h1 := (hC.core.slot n (.agg cs) (.agg arr) (by rw [List.getElem?_append_right (by rw [hC.sl]; exact Nat.le_refl _), hC.sl]; simp) (by rw [List.getElem?_append_right (by rw [hC.tl]; exact Nat.le_refl _), hC.tl]; simp)).1
    obtain ⟨ys, h2, h3⟩ := h1
    cases h2; exact h3
  have := CoreS.join (hs := []) (xs := []) (vs := [.agg cs, v]) (ys := [.agg arr, x]) (p := .agg (splice cs off v.leaves)) (xp := .agg (setsA arr off (vleaves x))) (f := overHand n off) hC rfl
    ⟨_, rfl, by rw [splice_len hle, setsA_size]; exact hlen⟩ ?_ ?_ ?_ ?_
  · exact this
  · intro j u y hu hy
    change (splice cs off v.leaves)[j]? = some u at hu
    change (setsA arr off (vleaves x)).toList[j]? = some y at hy
    rw [Array.getElem?_toList] at hy
    rw [splice_get hle] at hu
    rw [setsA_get _ _ _ _ (by omega), hx] at hy
    split at hu
    · rename_i hj
      rw [if_pos hj] at hy
      refine ⟨1, j - off, v, x, rfl, rfl, hu, hy, fun _ => ?_⟩
      simp only [overHand, List.length_nil, Nat.add_zero, if_true]
      rw [show off + (j - off) = j by omega]
    · rename_i hj
      rw [if_neg hj] at hy
      refine ⟨0, j, .agg cs, .agg arr, rfl, rfl, hu, by simpa [vleaves] using hy, fun _ => ?_⟩
      simp [overHand]
  · intro u hu
    obtain ⟨i, hi⟩ := List.mem_iff_getElem?.1 hu
    change (splice cs off v.leaves)[i]? = some u at hi
    rw [splice_get hle] at hi
    split at hi
    · exact ⟨v, by simp, List.mem_of_getElem? hi⟩
    · exact ⟨.agg cs, by simp, List.mem_of_getElem? hi⟩
  · intro s i h; simp only [List.length_nil, Nat.add_zero] at h; simp only [overHand]; rw [if_neg (by omega)]
  · intro o i; rfl
theorem fold_sets (off : Nat) : ∀ (l : List Value) (k : Nat) (cs : Array Value), (l.zipIdx k).foldl (fun cs (c, j) => cs.setIfInBounds (off + j) c) cs = setsA cs (off + k) l
  | [], _, _ => rfl
  | v :: l, k, cs => by
    simp only [List.zipIdx_cons, List.foldl_cons, setsA]
    exact fold_sets off l (k + 1) _
theorem fill_cons {place : Nat → Option (Nat × Nat)} {cells : Array Value} {i off m : Nat} {v : Value} {rest : List (Nat × Value)} (hp : place i = some (off, m)) (h1 : v.cells.size = m) (h2 : off + m ≤ cells.size) :
    Instr.fill place cells ((i, v) :: rest) = Instr.fill place (setsA cells off v.cells.toList) rest := by
  rw [Instr.fill, hp]
  simp only [h1]
  rw [if_neg (by simp; omega)]
  congr 1
  rw [← Array.foldl_toList, Array.toList_zipIdx]
  exact fold_sets off v.cells.toList 0 cells
theorem buildP_sound {d : Option Nat} {place : Nat → Option (Nat × Nat)} {g : Nat × Operand → Option (Nat × Nat × Opd)} (hg : ∀ i x off m x', g (i, x) = some (off, m, x') → place i = some (off, m) ∧ ∃ t, opd P t x = some x') :
    ∀ (ps : List (Nat × Operand)) (ps' : List (Nat × Nat × Opd)) {E : Env} {σ : St} {cs : List V} {arr : Array Value}, ps.mapM g = some ps' → CoreS n E σ [.agg cs] a.tmps.toList [.agg arr] H → (buildP d ps' cs).run σ = some σ' →
    ∃ arr', Instr.fill place arr (ps.map fun (i, x) => (i, a.eval x)) = some arr' ∧ ∃ E1 σ1 cs', CoreS n E1 σ1 [.agg cs'] a.tmps.toList [.agg arr'] H ∧ Grow base E H E1 H ∧ (putO d (.agg cs') .ret).run σ1 = some σ'
  | [], ps', E, σ, cs, arr, hm, hC, hr => by
    simp at hm; subst hm
    exact ⟨arr, rfl, E, σ, cs, hC, Grow.refl _ _ _, hr⟩
  | (i, x) :: ps, ps', E, σ, cs, arr, hm, hC, hr => by
    rw [List.mapM_cons] at hm
    simp only [Option.bind_eq_bind, Option.pure_def] at hm
    obtain ⟨⟨off, m, x'⟩, h0, hm⟩ := Option.bind_eq_some_iff.1 hm
    obtain ⟨ps1, h1, hm⟩ := Option.bind_eq_some_iff.1 hm
    cases hm
    obtain ⟨hpl, t, hx⟩ := hg i x off m x' h0
    simp only [buildP] at hr
    obtain ⟨E1, σ1, v, hC1, hG1, _, hr, _⟩ := gMove_sound (base := base) (hs := [.agg cs]) (xs := [.agg arr]) _ hC (opd_ok a hx) hr
    rw [Prog.run_ite] at hr
    split at hr
    · rename_i hc
      obtain ⟨c1, c2, c3⟩ := hc
      obtain ⟨e1, e2, e3⟩ := here_cells (hand_rel (hs := [.agg cs]) (xs := [.agg arr]) hC1) c3
      have hC2 := CoreS.overlay (off := off) hC1 (by rw [← e1]; omega) (by rw [← e2, ← e3]; simp)
      rw [← e1, ← e2] at hC2
      obtain ⟨ys, hys, hlen⟩ := (hC1.core.slot n (.agg cs) (.agg arr) (by rw [List.getElem?_append_right (by rw [hC1.sl]; exact Nat.le_refl _), hC1.sl]; simp) (by rw [List.getElem?_append_right (by rw [hC1.tl]; exact Nat.le_refl _), hC1.tl]; simp)).1
      cases hys
      obtain ⟨arr', f1, E2, σ2, cs', f2, f3, f4⟩ := buildP_sound hg ps ps1 h1 hC2 hr
      refine ⟨arr', ?_, E2, σ2, cs', f2, (hG1.trans (Grow.retag _ _ _ _)).trans f3, f4⟩
      rw [List.map_cons, fill_cons hpl (by rw [e3, ← e1]; exact c1) (by omega)]
      exact f1
    · cases hr
theorem op_build {t : TypeId} {ps : Array (Nat × Operand)} {zs : List V} {parts : List (Nat × Nat × Opd)} (ho : o.op = .build t ps) (hz : zeroOf P t = some zs)
    (hp : (∃ fs pl, under P t = some (.struct fs) ∧ (fs.toList.mapM fun f => (P.info? f.type).map fun i => (f.offset, i.size)) = some pl ∧
        (ps.toList.mapM fun (i, x) => do let f ← fs[i]?; let (off, m) ← pl[i]?; pure (off, m, ← opd P f.type x)) = some parts) ∨
      (∃ len e m, under P t = some (.array len e) ∧ szOf P e = some m ∧ (ps.toList.mapM fun (i, x) => do pure (i * m, m, ← opd P e x)) = some parts)) (hC : CoreS n E σ [] a.tmps.toList [] w.heap)
    (hr : (opProg callee base o.dst (.build zs parts)).run σ = some σ') (K : NextOk n base E σ' a w next) : o.upon P a next Q ((execOp a.eval o).run P w) := by
  obtain ⟨inf, z, hi, hz1, h1, h2⟩ := zeroOf_ok hz
  have hcon : ConstOk (.agg zs) (.agg z.cells) := by
    unfold zeroOf at hz
    simp only [Option.bind_eq_bind] at hz
    obtain ⟨inf', hi', hz⟩ := Option.bind_eq_some_iff.1 hz
    obtain ⟨z', hz1', hz⟩ := Option.bind_eq_some_iff.1 hz
    obtain ⟨tys, _, hz⟩ := Option.bind_eq_some_iff.1 hz
    rw [hi] at hi'; cases hi'
    rw [hz1] at hz1'; cases hz1'
    exact aggConst hz
  have hC1 := hC.push (v := .agg zs) (x := .agg z.cells) (fun u hu => hcon.2.2 u hu) (hcon.1 _ _ _ _ _ _) (by rw [hcon.2.1]; intro r hr; cases hr)
  have hend : ∀ (place : Nat → Option (Nat × Nat)) (g : Nat × Operand → Option (Nat × Nat × Opd)), (∀ i x off m x', g (i, x) = some (off, m, x') → place i = some (off, m) ∧ ∃ t, opd P t x = some x') → ps.toList.mapM g = some parts →
      (∀ arr', Instr.fill place z.cells (ps.toList.map fun (i, x) => (i, a.eval x)) = some arr' → P.built t (ps.map fun (i, x) => (i, a.eval x)).toList = some arr') → o.upon P a next Q ((execOp a.eval o).run P w) := by
    intro place g hg hm hb
    obtain ⟨arr', f1, E2, σ2, cs', f2, f3, f4⟩ := buildP_sound (base := base) hg ps.toList parts hm hC1 hr
    refine value_end f2 f3 (WSame.refl _) f4 K ?_
    simp [execOp, ho, run_build w t _ arr' (hb arr' f1)]
  rcases hp with ⟨fs, pl, hu, hpl, hm⟩ | ⟨len, e, m, hu, hm', hm⟩
  · refine hend (pl.toArray[·]?) _ ?_ hm ?_
    · intro i x off m x' h
      simp only [Option.bind_eq_bind, Option.pure_def] at h
      obtain ⟨f, hf, h⟩ := Option.bind_eq_some_iff.1 h
      obtain ⟨⟨off', m'⟩, hf', h⟩ := Option.bind_eq_some_iff.1 h
      obtain ⟨x1, hx1, h⟩ := Option.bind_eq_some_iff.1 h
      cases h
      exact ⟨by simpa using hf', _, hx1⟩
    · intro arr' hf
      unfold under at hu
      simp only [Program.built, hi, hu, hz1, hpl]
      simpa using hf
  · refine hend (fun i => some (i * m, m)) _ ?_ hm ?_
    · intro i x off m1 x' h
      simp only [Option.bind_eq_bind, Option.pure_def] at h
      obtain ⟨x1, hx1, h⟩ := Option.bind_eq_some_iff.1 h
      cases h
      exact ⟨rfl, _, hx1⟩
    · intro arr' hf
      unfold under at hu
      simp only [szOf] at hm'
      obtain ⟨ie, hie, rfl⟩ := Option.map_eq_some_iff.1 hm'
      simp only [Program.built, hi, hu, hz1, hie]
      simpa using hf
end
end Go.Vq
namespace Go.Vq
section
variable {P : Program} {n base : Nat} {E E' : Env} {σ σ' : St} {hs : List V} {ts xs : List Value} {H H' : Array Go.Obj}
variable {callee : Callee} {o : Oper} {a : Act} {w : World} {next : Act → World → Prop} {Q : Exit → Act → World → Prop}
structure RowRel (imm : Nat → Nat → Prop) (H : Array Go.Obj) (sz : Nat) (es : List V) (arr : Array Value) : Prop where
  ok : ∀ e ∈ es, elemOk sz e
  cell : ∀ (i : Nat) (e : V) (j : Nat) (v : V), es[i]? = some e → e.cells[j]? = some v → ∃ x, arr[i * sz + j]? = some x ∧ RelI imm H v x
theorem RowRel.mono {imm imm' : Nat → Nat → Prop} {sz : Nat} {es : List V} {arr : Array Value} (h : RowRel imm H sz es arr) (hm : ∀ b i, imm b i → imm' b i ∧ cellAt H' b i = cellAt H b i) : RowRel imm' H' sz es arr :=
  ⟨h.ok, fun i e j v h1 h2 => let ⟨x, e1, e2⟩ := h.cell i e j v h1 h2; ⟨x, e1, e2.mono hm⟩⟩
theorem RowRel.set {imm : Nat → Nat → Prop} {sz i : Nat} {es : List V} {arr : Array Value} {v : V} {ys : List Value} (h : RowRel imm H sz es arr) (hv : elemOk sz v) (hys : ys.length = sz) (hi : i < es.length) (hsz : es.length * sz ≤ arr.size)
    (hc : ∀ (j : Nat) (u : V) (y : Value), v.cells[j]? = some u → ys[j]? = some y → RelI imm H u y) : RowRel imm H sz (es.set i v) (setsA arr (i * sz) ys) := by
  have hrow : ∀ k, k < es.length → k * sz + sz ≤ es.length * sz := by
    intro k hk
    have := Nat.mul_le_mul_right sz hk
    rw [Nat.succ_mul] at this; exact this
  refine ⟨fun e he => ?_, fun k e j u hk hj => ?_⟩
  · rcases List.mem_or_eq_of_mem_set he with he | rfl
    · exact h.ok e he
    · exact hv
  · have hfit := hrow i hi
    rw [setsA_get _ _ _ _ (by omega), hys]
    by_cases hki : k = i
    · subst hki
      rw [List.getElem?_set_self hi] at hk; cases hk
      have hjl := lt_of_getElem? hj
      rw [hv.1] at hjl
      rw [if_pos (by omega)]
      obtain ⟨y, hy⟩ := exists_getElem? (l := ys) (i := j) (by omega)
      exact ⟨y, by rw [Nat.add_sub_cancel_left]; exact hy, hc j u y hj hy⟩
    · rw [List.getElem?_set_ne (fun e => hki e.symm)] at hk
      have hjl := lt_of_getElem? hj
      rw [(h.ok e (List.mem_of_getElem? hk)).1] at hjl
      rw [if_neg]
      · exact h.cell k e j u hk hj
      · intro hcon
        rcases Nat.lt_or_ge k i with hlt | hge
        · have := Nat.mul_le_mul_right sz hlt
          rw [Nat.succ_mul] at this; omega
        · have := Nat.mul_le_mul_right sz (show i + 1 ≤ k by omega)
          rw [Nat.succ_mul] at this; omega
theorem CoreS.newRow (hC : CoreS n E σ hs ts xs H) {sz cap : Nat} {es : List V} {arr : Array Value} {T : TypeId} {f : Nat × Nat} (hcap : es.length ≤ cap) (hfit : cap * sz ≤ arr.size) (hf : open_ f arr.size) (hR : RowRel E.imm H sz es arr) :
    CoreS n (E.setTag H.size (.home (.slot (n + hs.length) 0))) σ (hs ++ [.xsl 0 sz es]) ts (xs ++ [.slice (some ⟨H.size, 0, none⟩) es.length cap]) (H.push (.cells arr T f)) := by
  refine hC.newBlock hcap hfit hf ?_
  have hm := (Grow.newBlock (base := 0) (E := E) (H := H) (τ := .home (.slot (n + hs.length) 0)) (x := .cells arr T f) hC.core.fresh).imm
  have hR' := hR.mono hm
  refine ⟨hR'.ok, fun i e j v h1 h2 => ?_⟩
  obtain ⟨x, e1, e2⟩ := hR'.cell i e j v h1 h2
  exact ⟨_, x, rfl, by rw [cellAt_pushed]; simpa using e1, e2⟩
theorem ImmV.elemOk {v : V} {x : Value} {sz : Nat} (h : ImmV E H v x) (hv : v.here = true) (hl : v.cells.length = sz) : elemOk sz v :=
  ⟨hl, fun u hu => by rw [(h.cellsOk hv).1] at hu; exact (inElem_leaf (h.elem u hu)).1⟩
theorem buildSliceP_sound {d : Option Nat} {sz : Nat} {e : TypeId} : ∀ (ps : List (Nat × Operand)) (ps' : List (Nat × Opd)) {E : Env} {σ : St} {es : List V} {arr : Array Value}, (ps.mapM fun (i, x) => do pure (i, ← opd P e x)) = some ps' → CoreS n E σ [] a.tmps.toList [] H → RowRel E.imm H sz es arr → es.length * sz = arr.size → (buildSliceP d sz ps' es).run σ = some σ' →
    ∃ arr', Instr.fill (fun i => some (i * sz, sz)) arr (ps.map fun (i, x) => (i, a.eval x)) = some arr' ∧ ∃ E1 σ1 es', CoreS n E1 σ1 [] a.tmps.toList [] H ∧ Grow base E H E1 H ∧ RowRel E1.imm H sz es' arr' ∧ es'.length = es.length ∧ arr'.size = arr.size ∧ (putO d (.xsl 0 sz es') .ret).run σ1 = some σ'
  | [], ps', E, σ, es, arr, hm, hC, hR, hsz, hr => by
    simp at hm; subst hm
    exact ⟨arr, rfl, E, σ, es, hC, Grow.refl _ _ _, hR, rfl, rfl, hr⟩
  | (i, x) :: ps, ps', E, σ, es, arr, hm, hC, hR, hsz, hr => by
    rw [List.mapM_cons] at hm
    simp only [Option.bind_eq_bind, Option.pure_def] at hm
    obtain ⟨⟨i', x'⟩, h0, hm⟩ := Option.bind_eq_some_iff.1 hm
    obtain ⟨x1, hx, h0⟩ := Option.bind_eq_some_iff.1 h0
    cases h0
    obtain ⟨ps1, h1, hm⟩ := Option.bind_eq_some_iff.1 hm
    cases hm
    simp only [buildSliceP] at hr
    obtain ⟨E1, σ1, v, hC1, hG1, _, hr, hI⟩ := gImm_sound (base := base) hC (opd_ok a hx) hr
    rw [Prog.run_ite] at hr
    split at hr
    · rename_i hc
      obtain ⟨c1, c2, c3⟩ := hc
      obtain ⟨e1, e2, e3, e4⟩ := hI.cellsOk c3
      have hvl : (a.eval x).cells.toList.length = sz := by rw [Array.length_toList, e3, ← e1]; exact c1
      have hrow : i * sz + sz ≤ es.length * sz := by
        have := Nat.mul_le_mul_right sz c2
        rw [Nat.succ_mul] at this; exact this
      have hR1 := (hR.mono hG1.imm).set (i := i) (ys := (a.eval x).cells.toList) (hI.elemOk c3 c1) hvl c2 (by omega) (fun j u y h2 h3 => hI.cells j u y (by rw [← e1]; exact h2) (by rw [← e2]; exact h3))
      obtain ⟨arr', f1, E2, σ2, es', f2, f3, f4, f5, f6, f7⟩ := buildSliceP_sound ps ps1 h1 hC1 hR1 (by rw [setsA_size, List.length_set]; exact hsz) hr
      refine ⟨arr', ?_, E2, σ2, es', f2, hG1.trans f3, f4, by rw [f5, List.length_set], by rw [f6, setsA_size], f7⟩
      rw [List.map_cons, fill_cons rfl (by rw [e3, ← e1]; exact c1) (by omega)]
      exact f1
    · cases hr
theorem op_buildSlice {t e : TypeId} {len sz : Nat} {ps : Array (Nat × Operand)} {zs : List V} {agg : Bool} {z0 : V} {parts : List (Nat × Opd)} (ho : o.op = .buildSlice t len ps) (ht : under P t = some (.slice e)) (hs : szOf P e = some sz)
    (hz : zeroOf P e = some zs) (hzl : zs.length = sz) (hsz : sz ≠ 0) (hbig : ¬ len * sz > 2 ^ 24) (hzero : ofCells agg (zs.map freeze1) = some z0) (hp : (ps.toList.mapM fun (i, x) => do pure (i, ← opd P e x)) = some parts) (hC : CoreS n E σ [] a.tmps.toList [] w.heap)
    (hr : (opProg callee base o.dst (.buildSlice sz (List.replicate len z0) parts)).run σ = some σ') (K : NextOk n base E σ' a w next) : o.upon P a next Q ((execOp a.eval o).run P w) := by
  obtain ⟨inf, z, hi, hz1, h1, h2⟩ := zeroOf_ok hz
  have hinf : inf.size = sz := by simp only [szOf, hi, Option.map_some, Option.some.injEq] at hs; exact hs
  obtain ⟨c1, c2⟩ := zeroElem hz hzero
  subst hzl
  have hR0 : RowRel E.imm w.heap zs.length (List.replicate len z0) (zrow z.cells (len * zs.length)) := by
    refine ⟨fun u hu => ?_, fun i u j v h3 h4 => ?_⟩
    · rw [(List.mem_replicate.1 hu).2]
      exact ⟨by rw [c1]; simp, c2⟩
    · have hil := lt_of_getElem? h3
      rw [List.length_replicate] at hil
      rw [List.getElem?_replicate, if_pos hil] at h3
      cases h3
      exact zeroRel hz hzero hi hz1 hil h4 _ _
  obtain ⟨arr', f1, E1, σ1, es', f2, f3, f4, f5, f6, f7⟩ := buildSliceP_sound (base := base) ps.toList parts hp hC hR0 (by rw [zrow_size, List.length_replicate]) hr
  rw [List.length_replicate] at f5
  rw [zrow_size] at f6
  have hC1 := f2.newRow (cap := len) (T := e) (f := (0, 0)) (by omega) (by omega) (open_00 _) f4
  rw [f5] at hC1
  refine value_end (w1 := { w with heap := w.heap.push (.cells arr' e (0, 0)) }) hC1 (f3.trans (Grow.newBlock f2.core.fresh)) ⟨rfl, rfl, rfl⟩ f7 K ?_
  simp only [execOp, ho, Instr.buildSlice, Sem.run_bind, Sem.run_pure, Result.andThen_ok, run_under ht, sizeOf, typeInfo, hi, hinf, run_program, zeroValue, hz1, Sem.run_ite]
  rw [if_neg hbig]
  have hps : (ps.map fun (i, x) => (i, a.eval x)).toList = ps.toList.map fun (i, x) => (i, a.eval x) := by simp
  by_cases h0 : len * zs.length = 0
  · rw [h0] at f1 ⊢
    have e0 : (Array.map (fun (x : Nat) => (#[] : Array Value)[x % (#[] : Array Value).size]!) (Array.range 0)) = zrow z.cells 0 := by
      rw [zrow, show Array.range 0 = #[] from rfl]; simp
    simp only [if_true, Sem.run_pure, Result.andThen_ok]
    rw [e0, hps, f1]
    simp [Go.newRow]
  · rw [if_neg h0]
    try simp only [Sem.run_bind, Sem.run_pure, Result.andThen_ok]
    have e0 : (Array.map (fun (x : Nat) => z.cells[x % z.cells.size]!) (Array.range (len * zs.length))) = zrow z.cells (len * zs.length) := rfl
    rw [e0, hps, f1]
    simp [Go.newRow]
end
end Go.Vq
namespace Go.Vq
section
variable {P : Program} {n base : Nat} {E E' : Env} {σ σ' : St} {hs : List V} {ts xs : List Value} {H H' : Array Go.Obj}
variable {callee : Callee} {o : Oper} {a : Act} {w : World} {next : Act → World → Prop} {Q : Exit → Act → World → Prop}
def capOk (v : V) : Prop :=
  (∃ o off, v = .ptr (.obj o off)) ∨ (∃ f cs, v = .func f cs) ∨ (∃ o, v = .map o) ∨ (∃ cs, v = .iptr cs) ∨ (v.here = true ∧ ∀ u ∈ v.leaves, u.inElem = true)
theorem capOk.relC {slots : List V} {objs : List (Option Obj)} {vals : List Value} {s : Nat} {v : V} {x : Value} (h : capOk v) (hS : SlotRel E slots objs vals H s v x) : RelC E objs H v x := by
  rcases h with ⟨o, off, rfl⟩ | ⟨f, cs, rfl⟩ | ⟨o, rfl⟩ | ⟨cs, rfl⟩ | ⟨h1, h2⟩
  · obtain ⟨_, hR⟩ := rel_leaf hS rfl (fun g => by simp)
    obtain ⟨e, hl⟩ := hR
    subst e; exact .ptr o off hl
  · obtain ⟨_, hR⟩ := rel_leaf hS rfl (fun g => by simp)
    exact hR
  · obtain ⟨_, hR⟩ := rel_leaf hS rfl (fun g => by simp)
    obtain ⟨e, hl⟩ := hR
    subst e; exact .map o hl
  · obtain ⟨_, hR⟩ := rel_leaf hS rfl (fun g => by simp)
    obtain ⟨ad, e, hs, h⟩ := hR
    subst e; exact .iptr cs ad hs h
  · by_cases hl : v.leaf = true
    · obtain ⟨_, hR⟩ := rel_leaf hS hl (by rintro g rfl; cases h1)
      exact .imm v x (inElem_relI hR (h2 v (by rw [leaves_leaf hl]; simp))) h2
    · cases v <;> first | (exact absurd rfl hl) | skip
      · rename_i cs
        obtain ⟨⟨ys, rfl, hlen⟩, hc⟩ := hS
        refine .imm _ _ (.agg cs ys hlen fun i u y hu hy => inElem_relI (hc i u y hu (by simpa [vleaves] using hy)) (h2 u (List.mem_of_getElem? hu))) h2
      · cases h1
theorem ImmV.slotRel {v : V} {x : Value} {s : Nat} {slots : List V} {objs : List (Option Obj)} {vals : List Value} (h : ImmV E H v x) : SlotRel E slots objs vals H s v x :=
  ⟨h.shape, fun i u y hu hy => (relI_rel (h.cells i u y hu hy) (inElem_leaf (h.elem u (List.mem_of_getElem? hu))).1).1 _ _ _ _⟩
theorem CoreS.pushImm {v : V} {x : Value} (hC : CoreS n E σ hs ts xs H) (h : ImmV E H v x) : CoreS n E σ (hs ++ [v]) ts (xs ++ [x]) H :=
  hC.push (fun u hu => (inElem_leaf (h.elem u hu)).2.2.1) h.slotRel (by
    intro r hr
    rw [V.refs, List.mem_flatMap] at hr
    obtain ⟨u, hu, hr⟩ := hr
    rw [(inElem_leaf (h.elem u hu)).2.1] at hr; cases hr)
theorem gMoves_sound (a : Act) : ∀ {as : List Operand} {os : List Opd} {k : List V → Prog} {E : Env} {σ : St} {hs : List V} {xs : List Value}, as.mapM opd0 = some os → CoreS n E σ hs a.tmps.toList xs H → (opProg.gMoves os k).run σ = some σ' →
    ∃ E1 σ1 vs, CoreS n E1 σ1 (hs ++ vs) a.tmps.toList (xs ++ as.map a.eval) H ∧ Grow base E H E1 H ∧ vs.length = as.length ∧ (∀ v ∈ vs, capOk v) ∧ (k vs).run σ1 = some σ'
  | [], os, k, E, σ, hs, xs, h, hC, hr => by
    simp at h; subst h
    exact ⟨E, σ, [], by simpa using hC, Grow.refl _ _ _, rfl, fun v h => (by cases h), hr⟩
  | a0 :: as, os, k, E, σ, hs, xs, h, hC, hr => by
    rw [List.mapM_cons] at h
    simp only [Option.bind_eq_bind, Option.pure_def] at h
    obtain ⟨o0, h0, h⟩ := Option.bind_eq_some_iff.1 h
    obtain ⟨os', h1, h⟩ := Option.bind_eq_some_iff.1 h
    cases h
    have hend : ∀ {E1 : Env} {σ1 : St} {v : V}, CoreS n E1 σ1 (hs ++ [v]) a.tmps.toList (xs ++ [a.eval a0]) H → Grow base E H E1 H → capOk v → (opProg.gMoves os' fun vs => k (v :: vs)).run σ1 = some σ' →
        ∃ E1 σ1 vs, CoreS n E1 σ1 (hs ++ vs) a.tmps.toList (xs ++ (a0 :: as).map a.eval) H ∧ Grow base E H E1 H ∧ vs.length = (a0 :: as).length ∧ (∀ v ∈ vs, capOk v) ∧ (k vs).run σ1 = some σ' := by
      intro E1 σ1 v hC1 hG hcap hr1
      obtain ⟨E2, σ2, vs, b1, b2, b3, b4, b5⟩ := gMoves_sound a h1 hC1 hr1
      refine ⟨E2, σ2, v :: vs, by simpa using b1, hG.trans b2, by simp [b3], fun u hu => ?_, b5⟩
      rcases List.mem_cons.1 hu with rfl | hu
      · exact hcap
      · exact b4 u hu
    have hrr := hr
    simp only [opProg.gMoves] at hrr
    obtain ⟨v, hr2, ⟨s, hS, hs'⟩, hrf, _, _⟩ := opd_rel (v := .nil) hC (opd0_ok a h0) hrr
    clear hr
    have himm : (gImm o0 fun v => if v.here = true then opProg.gMoves os' fun vs => k (v :: vs) else .fail).run σ = some σ' →
        ∃ E1 σ1 vs, CoreS n E1 σ1 (hs ++ vs) a.tmps.toList (xs ++ (a0 :: as).map a.eval) H ∧ Grow base E H E1 H ∧ vs.length = (a0 :: as).length ∧ (∀ v ∈ vs, capOk v) ∧ (k vs).run σ1 = some σ' := by
      intro hr3
      obtain ⟨E1, σ1, v, hC1, hG1, _, hr3, hI⟩ := gImm_sound (base := base) hC (opd0_ok a h0) hr3
      rw [Prog.run_ite] at hr3
      split at hr3
      · rename_i hh
        exact hend (hC1.pushImm hI) hG1 (.inr (.inr (.inr (.inr ⟨hh, hI.elem⟩)))) hr3
      · cases hr3
    have hleaf : ∀ {v : V}, v.leaf = true → v.own = false → SlotRel E (σ.slots ++ hs) σ.objs (a.tmps.toList ++ xs) H s v (a.eval a0) → (∀ g, v ≠ .gone g) → v.refs1 = [] → CoreS n E σ (hs ++ [v]) a.tmps.toList (xs ++ [a.eval a0]) H := by
      intro v hl ho hS hg hf
      obtain ⟨_, hR⟩ := rel_leaf hS hl hg
      exact hC.pushLeaf hl ho hR (by rw [hf]; intro r hr; cases hr)
    split at hr2
    · exact hend (hleaf rfl rfl hS (fun g => by simp) rfl) (Grow.refl _ _ _) (.inl ⟨_, _, rfl⟩) hr2
    · exact hend (hleaf rfl rfl hS (fun g => by simp) rfl) (Grow.refl _ _ _) (.inr (.inl ⟨_, _, rfl⟩)) hr2
    · exact hend (hleaf rfl rfl hS (fun g => by simp) rfl) (Grow.refl _ _ _) (.inr (.inr (.inl ⟨_, rfl⟩))) hr2
    · exact hend (hleaf rfl rfl hS (fun g => by simp) rfl) (Grow.refl _ _ _) (.inr (.inr (.inr (.inl ⟨_, rfl⟩)))) hr2
    · exact himm hr2
theorem op_makeFunc {f : FuncId} {first caps : Array Operand} {cs : List Opd} (ho : o.op = .makeFunc (.func f) first caps) (hf : first = #[]) (hx : caps.toList.mapM opd0 = some cs) (hC : CoreS n E σ [] a.tmps.toList [] w.heap)
    (hr : (opProg callee base o.dst (.makeFunc f cs)).run σ = some σ') (K : NextOk n base E σ' a w next) : o.upon P a next Q ((execOp a.eval o).run P w) := by
  obtain ⟨E1, σ1, vs, hC1, hG, hl, hcap, hr⟩ := gMoves_sound (base := base) a hx hC hr
  simp only [List.nil_append] at hC1
  have hrel : RelC E1 σ1.objs w.heap (.func f vs) (.func (.func f) #[] (caps.map a.eval)) := by
    refine .func f vs (caps.map a.eval) (by simp [hl]) fun i v x hv hx' => ?_
    have hx2 : (caps.toList.map a.eval)[i]? = some x := by simpa using hx'
    refine (hcap v (List.mem_of_getElem? hv)).relC (hC1.core.slot (n + i) v x ?_ ?_)
    · rw [List.getElem?_append_right (by rw [hC1.sl]; omega), hC1.sl, Nat.add_sub_cancel_left]; exact hv
    · rw [List.getElem?_append_right (by rw [hC1.tl]; omega), hC1.tl, Nat.add_sub_cancel_left]; exact hx2
  have hC2 : CoreS n E1 σ1 [] a.tmps.toList [] w.heap := CoreS.pops (hs := []) (xs := []) (vs := vs) (ys := caps.toList.map a.eval) vs.length rfl (by simp [hl]) (by simpa using hC1)
  refine value_end (hC2.pushLeaf (h := .slot 0 0) (v := .func f vs) (x := .func (.func f) #[] (caps.map a.eval)) rfl rfl hrel (by intro r hr; cases hr)) hG (WSame.refl _) hr K ?_
  simp [execOp, ho, hf, Instr.makeFunc]
theorem bytes_row {imm : Nat → Nat → Prop} (s : List UInt8) (l : List Value) : RowRel imm H 1 (bytesV s) (s.map (fun b => Value.int .u8 b.toNat) ++ l).toArray := by
  refine ⟨fun e he => ?_, fun i e j v h1 h2 => ?_⟩
  · obtain ⟨b, _, rfl⟩ := List.mem_map.1 he
    exact ⟨rfl, by intro u hu; simp [V.cells] at hu; subst hu; rfl⟩
  · rw [bytesV, List.getElem?_map] at h1
    obtain ⟨b, hb, rfl⟩ := Option.map_eq_some_iff.1 h1
    cases j with
    | zero =>
      simp [V.cells] at h2; subst h2
      have := lt_of_getElem? hb
      refine ⟨.int .u8 b.toNat, ?_, .int _ _⟩
      rw [List.getElem?_toArray, Nat.mul_one, Nat.add_zero, List.getElem?_append_left (by simpa using this), List.getElem?_map, hb]; rfl
    | succ j => simp [V.cells] at h2
theorem modify_pushed (H : Array Go.Obj) (x : Go.Obj) (f : Go.Obj → Go.Obj) : (H.push x).modify H.size f = H.push (f x) := by
  apply Array.ext
  · simp
  · intro i h1 h2
    rw [Array.getElem_modify]
    simp only [Array.getElem_push]
    by_cases hi : i < H.size
    · have : H.size ≠ i := by omega
      simp [hi, this]
    · have : H.size = i := by simp at h2; omega
      simp [hi, this]
theorem run_mark_new (w : World) (arr : Array Value) (T : TypeId) : (markStringish ⟨w.heap.size, 0, none⟩).run P (w.alloc (.cells arr T)) = .ok () { w with heap := w.heap.push (.cells arr T (arr.size, arr.size + 1)) } := by
  have h1 : (w.alloc (.cells arr T)).shape? w.heap.size = some (T, arr.size) := by simp only [World.shape?, heap_alloc_new]
  simp only [markStringish, Sem.run_bind, run_shape, h1, Result.andThen_ok, run_freeze]
  simp only [World.freeze, World.alloc, modify_pushed]
  simp
theorem op_convBytes {t t' e : TypeId} {x : Operand} {x' : Opd} (ho : o.op = .convert t t' x) (h1 : under P t = some .string) (h2 : under P t' = some (.slice e)) (h3 : under P e = some (.int .u8)) (hx : opd0 x = some x') (hC : CoreS n E σ [] a.tmps.toList [] w.heap)
    (hr : (opProg callee base o.dst (.conv .bytes x')).run σ = some σ') (K : NextOk n base E σ' a w next) : o.upon P a next Q ((execOp a.eval o).run P w) := by
  obtain ⟨u, hr, ⟨s, hS, hs'⟩, hrest⟩ := opd_rel (v := .nil) hC (opd0_ok a hx) hr
  clear hrest hs'
  cases u <;> first | (cases hr; done) | skip
  rename_i b
  have e0 := slot_toVal (y := .string ⟨b.toArray⟩) hS rfl
  generalize hcap : (Question.appendCap b.length 0 e).cut (w.tape w.drawn (.appendCap b.length 0 e)) = cap
  have hge : b.length ≤ cap := by rw [← hcap]; simp [Question.cut]
  have hC1 := hC.newRow (cap := cap) (es := bytesV b) (arr := (b.map (fun b => Value.int .u8 b.toNat) ++ List.replicate (cap - b.length) (Value.int .u8 0)).toArray) (T := e) (f := (cap, cap + 1)) (by simpa [bytesV] using hge) (by simp; omega) (⟨by simp, by intro i hi; simp at hi; simp only; omega⟩) (bytes_row b _)
  refine value_end (w1 := { w.drew with heap := w.heap.push (.cells (b.map (fun b => Value.int .u8 b.toNat) ++ List.replicate (cap - b.length) (Value.int .u8 0)).toArray e (cap, cap + 1)) }) hC1 (Grow.newBlock hC.core.fresh) ⟨rfl, rfl, rfl⟩ hr K ?_
  have hsz : (⟨b.toArray⟩ : ByteArray).size = b.length := size_mk b
  have hm := run_mark_new (P := P) w.drew ((b.map fun b => Value.int .u8 b.toNat).toArray ++ Array.replicate (cap - b.length) (Value.int .u8 0)) e
  have hsz2 : ((b.map fun b => Value.int .u8 b.toNat).toArray ++ Array.replicate (cap - b.length) (Value.int .u8 0)).size = cap := by simp; omega
  rw [hsz2] at hm
  change (markStringish ⟨w.heap.size, 0, none⟩).run P _ = _ at hm
  simp [execOp, ho, e0, convert, run_under h1, run_under h2, run_under h3, Conv.stringToBytes, Question.forced, hsz, hcap, Go.newRow, bytesV]
  rw [hm]
  simp
  have e1 : ((b.map fun b => Value.int .u8 b.toNat).toArray ++ Array.replicate (cap - b.length) (Value.int .u8 0)) = (b.map (fun b => Value.int .u8 b.toNat) ++ List.replicate (cap - b.length) (Value.int .u8 0)).toArray := by apply Array.ext'; simp
  rw [e1]
  rfl
end
end Go.Vq
namespace Go.Vq
section
variable {P : Program} {n base : Nat} {E E' : Env} {σ σ' : St} {hs : List V} {ts xs : List Value} {H H' : Array Go.Obj}
variable {callee : Callee} {o : Oper} {a : Act} {w : World} {next : Act → World → Prop} {Q : Exit → Act → World → Prop}
theorem add_eq {ad : Addr} (h : ad.spot = none) (m : Nat) : ad.add m = ⟨ad.block, ad.off + m, none⟩ := by
  unfold Addr.add
  split
  · cases ad; simp_all
  · rfl
theorem sliced_addr {a : Option Addr} {l h m s : Nat} : ∃ a', sliced a l h m s = .slice a' (h - l) (m - l) ∧ a' = (if m = l then a else a.map (·.add (l * s))) := ⟨_, rfl, rfl⟩
theorem View.sliced {imm : Nat → Nat → Prop} {sz cap l h m : Nat} {es : List V} {x : Value} {a : Option Addr} (hw : View imm H sz es x a cap) (h1 : l ≤ h) (h2 : h ≤ es.length) (h3 : h ≤ m) (h4 : m ≤ cap) :
    ∃ a', Go.sliced a l h m sz = .slice a' (h - l) (m - l) ∧ View imm H sz ((es.drop l).take (h - l)) (Go.sliced a l h m sz) a' (m - l) ∧ (m - l ≠ 0 → ∃ ad, a = some ad ∧ a' = some ⟨ad.block, ad.off + l * sz, none⟩ ∧ l + (m - l) ≤ cap) := by
  have hlen : ((es.drop l).take (h - l)).length = h - l := by simp; omega
  refine ⟨if m = l then a else a.map (·.add (l * sz)), rfl, ⟨by rw [hlen]; rfl, by rw [hlen]; omega, fun hn => ?_, fun ad hn hcz => ?_, ?_⟩, fun hne => ?_⟩
  · split at hn
    · omega
    · cases a with
      | none => have := hw.nil rfl; omega
      | some ad => simp at hn
  · split at hn
    · omega
    · obtain ⟨ad0, h5, rfl⟩ := Option.map_eq_some_iff.1 hn
      rw [add_eq (hw.spot ad0 h5 (by omega))]
  · by_cases hml : m = l
    · rw [if_pos hml]
      have : (es.drop l).take (h - l) = [] := by rw [show h - l = 0 by omega]; simp
      rw [this]; exact Elems.nil _ _ _ _
    · rw [if_neg hml]
      cases a with
      | none => have := hw.nil rfl; omega
      | some ad =>
        have := hw.elems.sub (off := l) (len := h - l)
        simp only [Option.map_some]
        rw [add_eq (hw.spot ad rfl (by omega))]; exact this
  · rw [if_neg (by omega)]
    cases a with
    | none => have := hw.nil rfl; omega
    | some ad => exact ⟨ad, rfl, by simp only [Option.map_some]; rw [add_eq (hw.spot ad rfl (by omega))], by omega⟩
def V.lenOf : V → Nat
  | .isl _ _ es | .xsl _ _ es | .fsl _ _ es | .csl _ es => es.length
  | .srf _ _ _ _ len => len
  | .asl _ len => len
  | _ => 0
theorem isl_nil {imm : Nat → Nat → Prop} {a : Option Addr} {sz cap : Nat} (hn : a = none → cap = 0) (hs : ∀ ad, a = some ad → cap ≠ 0 → ad.spot = none) : RelI imm H (.isl 0 sz []) (.slice a 0 cap) :=
  .isl 0 sz [] a cap (fun _ _ => undef) (by simp) hn hs (fun _ h => by cases h) (fun _ _ _ _ _ _ h => by simp at h) (fun _ _ _ _ h => by simp at h)
theorem subV_sound {d : Option Nat} {x' : Opd} {v : V} {s sz l h len cap : Nat} {a0 : Option Addr} {capped : Bool} (hC : CoreS n E σ [] ts [] H) (hR : RelV E (σ.slots ++ []) σ.objs (ts ++ []) H (.slot s 0) v (.slice a0 len cap)) (hsz : v.sz? = some sz)
    (hrf : RefsOk n (σ.slots ++ []) σ.objs v.refs1) (hgrab : ∀ k, v.own = true → (drain x' k).run σ = some σ' → ∃ E1 σ1, CoreS n E1 σ1 [v] ts [.slice a0 len cap] H ∧ Grow base E H E1 H ∧ k.run σ1 = some σ')
    (h1 : l ≤ h) (h2 : h ≤ len) (hr : (subV d x' v l h capped).run σ = some σ') :
    ∃ E1 σ1 v', CoreS n E1 σ1 [v'] ts [sliced a0 l h (if capped then h else cap) sz] H ∧ Grow base E H E1 H ∧ (putO d v' .ret).run σ1 = some σ' := by
  have himm : ∀ {es : List V} {cap' : Nat}, (∃ g, RelI E.imm H (.isl g sz es) (.slice a0 len cap)) → ∀ m, h ≤ m → m ≤ cap → RelI E.imm H (.isl 0 sz ((es.drop l).take (h - l))) (sliced a0 l h m sz) := by
    intro es cap' hI m h3 h4
    obtain ⟨g, hI⟩ := hI
    obtain ⟨a1, cap1, hw, hi⟩ := View.of_isl hI
    have e := hw.eq
    injection e with e1 e2 e3
    subst e1 e2 e3
    obtain ⟨a', e1, hw', ha⟩ := hw.sliced h1 h2 h3 h4
    exact isl_of_sub (cap := cap) hw' ha hi
  have hleaf : ∀ {v' : V} {y : Value}, v'.leaf = true → v'.own = false → RelV E (σ.slots ++ []) σ.objs (ts ++ []) H (.slot s 0) v' y → RefsOk n (σ.slots ++ []) σ.objs v'.refs1 → CoreS n E σ [v'] ts [y] H := by
    intro v' y k1 k2 k3 k4
    exact hC.pushLeaf k1 k2 k3 k4
  have hnoref : ∀ {v' : V}, v'.refs1 = [] → RefsOk n (σ.slots ++ []) σ.objs v'.refs1 := by
    intro v' e; rw [e]; intro r hr; cases hr
  cases v <;> first | (cases hr; done) | skip
  case str => cases hsz
  case isl g sz' es =>
    cases hsz
    have hle : len ≤ cap := by obtain ⟨a1, cap1, hw, _⟩ := View.of_isl hR; have e := hw.eq; injection e with e1 e2 e3; subst e2 e3; exact hw.le
    cases capped with
    | false => exact ⟨E, σ, _, hleaf (v' := .isl 0 sz _) rfl rfl (himm (cap' := 0) ⟨g, hR⟩ cap (by omega) (Nat.le_refl _)) (hnoref rfl), Grow.refl _ _ _, hr⟩
    | true =>
      have hI := himm (cap' := 0) ⟨g, hR⟩ h (Nat.le_refl _) (by omega)
      have hlen : ((es.drop l).take (h - l)).length = h - l := by
        obtain ⟨a1, cap1, hw, _⟩ := View.of_isl hR; have e := hw.eq; injection e with e1 e2 e3; simp; omega
      exact ⟨E, σ, _, hleaf (v' := .csl sz _) rfl rfl ⟨hI, _, by rw [hlen]; rfl⟩ (hnoref rfl), Grow.refl _ _ _, hr⟩
  case nilS sz' =>
    cases hsz
    cases hR
    obtain rfl : h = 0 := by omega
    obtain rfl : l = 0 := by omega
    cases capped with
    | true => cases hr
    | false => exact ⟨E, σ, _, hleaf (v' := .nilS sz) rfl rfl (.nilS sz) (hnoref rfl), Grow.refl _ _ _, hr⟩
  case csl sz' es =>
    cases hsz
    obtain ⟨hI, a1, e⟩ := hR
    injection e with e1 e2 e3
    cases capped with
    | false => exact ⟨E, σ, _, hleaf (v' := .isl 0 sz _) rfl rfl (himm (cap' := 0) ⟨0, hI⟩ cap (by omega) (Nat.le_refl _)) (hnoref rfl), Grow.refl _ _ _, hr⟩
    | true => cases hr
  case fsl g sz' es =>
    cases hsz
    cases capped with
    | true => cases hr
    | false =>
      obtain ⟨a1, cap1, e, g1, g2, g3, g4, g5⟩ := hR
      injection e with e1 e2 e3
      subst e1 e2 e3
      have hw : View E.imm H sz es (.slice a0 es.length cap) a0 cap := ⟨rfl, g1, g2, g3, g5⟩
      obtain ⟨a', e1, hw', ha⟩ := hw.sliced h1 h2 (m := cap) (by omega) (Nat.le_refl _)
      refine ⟨E, σ, _, hleaf (v' := .isl 0 sz _) rfl rfl (isl_of_sub (es := es) (off := l) (len := h - l) (g := 0) (cap := cap) hw' ha ?_) (hnoref rfl), Grow.refl _ _ _, hr⟩
      intro ad i e j he hi hj
      subst he
      have hil := lt_of_getElem? hi
      obtain ⟨ad', arr, T, f, f1, f2, _⟩ := g4 (by omega)
      cases f1
      have he1 := (g5.1 e (List.mem_of_getElem? hi)).1
      simp only [Env.imm, f2]
      have : (i + 1) * sz ≤ es.length * sz := Nat.mul_le_mul_right _ hil
      rw [Nat.add_mul] at this; omega
  case xsl g sz' es =>
    cases hsz
    cases capped with
    | true => cases hr
    | false =>
      obtain ⟨E1, σ1, hC1, hG1, hr1⟩ := hgrab _ rfl hr
      have hx := (hand_rel (hs := []) (xs := []) hC1).2 0 _ _ rfl rfl
      obtain ⟨a1, cap1, e, g1, g2, g3, g4, g5⟩ := hx
      injection e with e1 e2 e3
      subst e1 e2 e3
      have hw : View E1.imm H sz es (.slice a0 es.length cap) a0 cap := ⟨rfl, g1, g2, g3, g5⟩
      obtain ⟨a', e1, hw', ha⟩ := hw.sliced h1 h2 (m := cap) (by omega) (Nat.le_refl _)
      refine ⟨E1, σ1, .xsl 0 sz ((es.drop l).take (h - l)), ⟨hC1.sl, hC1.tl, ?_⟩, hG1, hr1⟩
      have hC0 := hC1.core
      have hp := (Core.pop (v := .xsl g sz es) (x := .slice a0 es.length cap) (slots := σ1.slots) (vals := ts) hC0 (by rw [hC1.sl]; exact Nat.le_refl _))
      refine hp.push ⟨rfl, fun i u y hu hy => ?_⟩ (by intro r hr; simp [V.refs, V.leaves, V.refs1] at hr)
      have hw2 := hw'.le
      have hlen : ((es.drop l).take (h - l)).length = h - l := by simp; omega
      cases i with
      | succ i => simp [V.leaves] at hu
      | zero =>
        simp only [V.leaves, List.getElem?_cons_zero, Option.some.injEq] at hu
        simp only [Bool.false_eq_true, if_false] at hy ⊢
        rw [e1] at hy ⊢
        simp only [vleaves, List.getElem?_cons_zero, Option.some.injEq] at hy
        subst hu hy
        refine ⟨a', cap - l, by rw [hlen], by omega, hw'.nil, hw'.spot, fun hne => ?_, hw'.elems⟩
        obtain ⟨ad, b1, b2, b3⟩ := ha hne
        obtain ⟨ad', arr, T, f, f1, f2, f3, f4, f5⟩ := g4 (by omega)
        rw [b1] at f1; cases f1
        refine ⟨_, arr, T, f, b2, ?_, f3, ?_, f5⟩
        · rw [hC1.sl]; exact f2
        · simp only
          have h6 : l * sz + (cap - l) * sz = cap * sz := by rw [← Nat.add_mul]; congr 1; omega
          omega
  case srf hm g sz' off len' =>
    cases hsz
    obtain ⟨a1, c1, e, g1, g2, g3, g4⟩ := hR
    injection e with e1 e2 e3
    subst e1 e2 e3
    have hpush : ∀ m, h ≤ m → m ≤ cap → CoreS n E σ [.srf hm g sz (off + l) (h - l)] ts [sliced a0 l h m sz] H := by
      intro m h3 h4
      refine hleaf rfl rfl ⟨if m = l then a0 else a0.map (·.add (l * sz)), m - l, rfl, by omega, fun hn => ?_, fun ad hn hcz => ?_, fun hvl => ?_⟩ (fun r hr => by simp only [V.refs1, List.mem_singleton] at hr; exact hrf r (by simp [V.refs1, hr]))
      · split at hn
        · omega
        · cases a0 with
          | none => have := g2 rfl; omega
          | some ad => simp at hn
      · split at hn
        · omega
        · obtain ⟨ad0, h5, rfl⟩ := Option.map_eq_some_iff.1 hn
          rw [add_eq (g3 ad0 h5 (by omega))]
      · obtain ⟨b1, b2, b3, b4, b5⟩ := g4 hvl
        refine ⟨b1, b2, b3, b4, fun hne => ?_⟩
        obtain ⟨ad, d1, d2, d3⟩ := b5 (by omega)
        subst d2
        refine ⟨ad, d1, ?_, by omega⟩
        rw [if_neg (by omega)]
        simp only [Option.map_some, add_eq (ad := ⟨ad.block, ad.off + off * sz, none⟩) rfl]
        congr 2
        rw [Nat.add_mul]; omega
    cases capped with
    | false => exact ⟨E, σ, _, hpush cap (by omega) (Nat.le_refl _), Grow.refl _ _ _, hr⟩
    | true =>
      have hC1 := hpush h (Nat.le_refl _) (by omega)
      simp only [subV] at hr
      obtain ⟨E1, σ1, u', hC2, hG, _, hr2, hl', _, _⟩ := settle1_sound (base := base) (hs := []) (xs := []) (i := 0) (u := .srf hm g sz (off + l) (h - l)) hC1 rfl hr
      cases u' <;> first | (cases hr2; done) | skip
      rename_i g' sz2 es2 q0 q1
      have hR2 := (hand_rel (hs := []) (xs := []) hC2).2 0 (.isl g' sz2 es2) _ rfl rfl
      obtain ⟨a2, cap2, hw2, hi2⟩ := View.of_isl hR2
      have e2 := hw2.eq
      obtain ⟨a3, e3, _⟩ := sliced_addr (a := a0) (l := l) (h := h) (m := h) (s := sz)
      rw [e3] at e2
      injection e2 with f1 f2 f3
      have hp : CoreS n E1 σ1 [] ts [] H := CoreS.pop (hs := []) (xs := []) (v := .isl g' sz2 es2) hC2
      refine ⟨E1, σ1, .csl sz2 es2, hp.pushLeaf (h := .slot 0 0) rfl rfl ⟨?_, a3, ?_⟩ (by intro r hr; cases hr), hG, hr2⟩
      · exact isl_of_view hw2 hi2
      · simp only [if_true]; rw [e3, ← f2]
  case asl r len' =>
    cases hsz
    cases capped with
    | true => cases r <;> cases hr
    | false =>
      have hnil : ¬ l < len' → ∀ {ad : Addr}, ad.spot = none → a0 = some ad → len = len' → RelV E (σ.slots ++ []) σ.objs (ts ++ []) H (.slot s 0) (.isl 0 1 []) (sliced a0 l h cap 1) := by
        intro hn ad hs ha hl
        obtain ⟨a', e1, e2⟩ := sliced_addr (a := a0) (l := l) (h := h) (m := cap) (s := 1)
        rw [e1, show h - l = 0 by omega]
        refine isl_nil (fun h => ?_) (fun ad' h _ => ?_)
        · subst ha; rw [h] at e2; split at e2 <;> simp at e2
        · subst ha; rw [h] at e2
          split at e2
          · cases e2; exact hs
          · simp at e2; subst e2; rw [add_eq hs]
      cases r with
      | obj ob off =>
        obtain ⟨c, e, g1, g2⟩ := hR
        injection e with e1 e2 e3
        simp only [subV] at hr
        rw [Prog.run_ite] at hr
        split at hr
        · rename_i hlt
          refine ⟨E, σ, _, hleaf (v' := .asl (.obj ob (off + l)) (h - l)) rfl rfl ⟨cap - l, ?_, by omega, g2⟩ (hnoref rfl), Grow.refl _ _ _, hr⟩
          subst e1
          simp only [sliced, Bool.false_eq_true, if_false]
          rw [if_neg (by omega)]
          simp only [Option.map_some, add_eq (ad := ⟨E.addr ob, off, none⟩) rfl, Nat.mul_one]
        · rename_i hlt
          exact ⟨E, σ, _, hleaf rfl rfl (hnil hlt (ad := ⟨E.addr ob, off, none⟩) rfl e1 e2) (hnoref rfl), Grow.refl _ _ _, hr⟩
      | elem hm g sz i off =>
        obtain ⟨ad', c, e, g1, g2, g3⟩ := hR
        injection e with e1 e2 e3
        simp only [subV] at hr
        rw [Prog.run_ite] at hr
        split at hr
        · rename_i hlt
          refine ⟨E, σ, _, hleaf (v' := .asl (.elem hm g sz i (off + l)) (h - l)) rfl rfl ⟨ad'.add l, cap - l, ?_, by omega, by rw [add_eq g2], fun hvl => ?_⟩ (fun r hr => by simp only [V.refs1, List.mem_singleton] at hr; exact hrf r (by simp [V.refs1, hr])), Grow.refl _ _ _, hr⟩
          · subst e1
            simp only [sliced, Bool.false_eq_true, if_false]
            rw [if_neg (by omega)]
            simp only [Option.map_some, Nat.mul_one]
          · obtain ⟨ad, l0, c0, b1, b2⟩ := g3 hvl
            refine ⟨ad, l0, c0, b1, ?_⟩
            rw [add_eq g2, b2]
            simp only [Addr.mk.injEq, and_true, true_and]; omega
        · rename_i hlt
          exact ⟨E, σ, _, hleaf rfl rfl (hnil hlt g2 e1 e2) (hnoref rfl), Grow.refl _ _ _, hr⟩
end
end Go.Vq
namespace Go.Vq
section
variable {P : Program} {n base : Nat} {E E' : Env} {σ σ' : St} {hs : List V} {ts xs : List Value} {H H' : Array Go.Obj}
variable {callee : Callee} {o : Oper} {a : Act} {w : World} {next : Act → World → Prop} {Q : Exit → Act → World → Prop}
def OptIs (a : Act) (oo : Option Operand) (dflt m : Int) : Prop := (oo = none ∧ m = dflt) ∨ ∃ x kk, oo = some x ∧ a.eval x = .int kk m
theorem gOptInt_sound (hC : CoreS n E σ hs a.tmps.toList xs H) {oo : Option Operand} {o' : Option Opd} (ho : opdO oo = some o') {dflt : Int} {k : Int → Prog} (hr : (gOptInt o' dflt k).run σ = some σ') : ∃ m, (k m).run σ = some σ' ∧ OptIs a oo dflt m := by
  cases oo with
  | none => cases ho; exact ⟨dflt, hr, .inl ⟨rfl, rfl⟩⟩
  | some x =>
    obtain ⟨x', hx, rfl⟩ := Option.map_eq_some_iff.1 (show (opd0 x).map some = some o' from ho)
    obtain ⟨kk, m, hm, hr⟩ := gInt_sound hC (opd0_ok a hx) hr
    exact ⟨m, hr, .inr ⟨x, kk, rfl, hm⟩⟩
theorem bounds_run {isSlice : Bool} {len cap m : Nat} {lo hi mx : Option Operand} {l h : Int} (h0 : OptIs a lo 0 l) (h1 : OptIs a hi len h) (h2 : (mx = none ∧ m = cap) ∨ (hi ≠ none ∧ m = h.toNat ∧ ∃ x kk, mx = some x ∧ a.eval x = .int kk h))
    (g0 : 0 ≤ l) (g1 : l ≤ h) (g2 : h ≤ cap) : (Instr.sliceBounds isSlice len cap (lo.map a.eval) (hi.map a.eval) (mx.map a.eval)).run P w = .ok (l.toNat, h.toNat, m) w := by
  have e1 : ((h.toNat : Nat) : Int) = h := Int.toNat_of_nonneg (by omega)
  have hl0 : ∀ (kk : IntKind) (c : BoundsCode), (Instr.sliceBound (.int kk l) h.toNat c).run P w = .ok l.toNat w := fun kk c => run_sliceBound w kk l _ c g0 (by omega)
  have hh0 : ∀ (kk : IntKind) (c : BoundsCode), (Instr.sliceBound (.int kk h) cap c).run P w = .ok h.toNat w := fun kk c => run_sliceBound w kk h _ c (by omega) g2
  have hm0 : ∀ (kk : IntKind) (c : BoundsCode), (Instr.sliceBound (.int kk h) h.toNat c).run P w = .ok h.toNat w := fun kk c => run_sliceBound w kk h _ c (by omega) (by omega)
  rcases h2 with ⟨rfl, rfl⟩ | ⟨hne, rfl, xm, km, rfl, em⟩
  · rcases h1 with ⟨rfl, rfl⟩ | ⟨xh, kh, rfl, eh⟩
    · rcases h0 with ⟨rfl, rfl⟩ | ⟨xl, kl, rfl, el⟩
      · simp [Instr.sliceBounds]
      · have := hl0 kl .sliceB
        simp at this
        simp [Instr.sliceBounds, el, this]
    · rcases h0 with ⟨rfl, rfl⟩ | ⟨xl, kl, rfl, el⟩
      · simp [Instr.sliceBounds, eh, hh0]
      · simp [Instr.sliceBounds, eh, el, hh0, hl0]
  · rcases h1 with ⟨rfl, rfl⟩ | ⟨xh, kh, rfl, eh⟩
    · exact absurd rfl hne
    · rcases h0 with ⟨rfl, rfl⟩ | ⟨xl, kl, rfl, el⟩
      · simp [Instr.sliceBounds, eh, em, hh0, hm0]
      · simp [Instr.sliceBounds, eh, el, em, hh0, hm0, hl0]
theorem slice_le {slots : List V} {objs : List (Option Obj)} {vals : List Value} {h : Home} {v : V} {x : Value} {sz : Nat} (hR : RelV E slots objs vals H h v x) (hs : v.sz? = some sz) : ∃ a c, x = .slice a v.lenOf c ∧ v.lenOf ≤ c := by
  cases v <;> first | (simp [V.sz?] at hs; done) | skip
  case nilS => exact ⟨_, _, relV_toVal hR rfl, Nat.le_refl _⟩
  case isl => obtain ⟨a, cap, hw, _⟩ := View.of_isl hR; exact ⟨_, _, hw.eq, hw.le⟩
  case xsl => obtain ⟨a, cap, e, h, _⟩ := hR; exact ⟨_, _, e, h⟩
  case fsl => obtain ⟨a, cap, e, h, _⟩ := hR; exact ⟨_, _, e, h⟩
  case csl => obtain ⟨_, a, e⟩ := hR; exact ⟨_, _, e, Nat.le_refl _⟩
  case srf => obtain ⟨a, c, e, h, _⟩ := hR; exact ⟨_, _, e, h⟩
  case asl r len =>
    cases r with
    | obj => obtain ⟨c, e, h, _⟩ := hR; exact ⟨_, _, e, h⟩
    | elem => obtain ⟨ad, c, e, h, _⟩ := hR; exact ⟨_, _, e, h⟩
theorem op_sliceArr {t e : TypeId} {m : Nat} {x : Operand} {x' : Opd} {lo hi : Option Operand} {lo' hi' : Option Opd} (ho : o.op = .slice t x lo hi none) (ht : under P t = some (.array m e)) (hs : szOf P e = some 1) (hx : opd0 x = some x') (hlo : opdO lo = some lo') (hhi : opdO hi = some hi')
    (hC : CoreS n E σ [] a.tmps.toList [] w.heap)
    (hr : (opProg callee base o.dst (.slice (.arr m) x' lo' hi' none)).run σ = some σ') (K : NextOk n base E σ' a w next) : o.upon P a next Q ((execOp a.eval o).run P w) := by
  have hok := opd0_ok a hx
  replace hr := opd_rel (v := .nil) hC hok hr
  obtain ⟨v, hr, ⟨s, hS, hs'⟩, hrf, hq1, hq2⟩ := hr
  clear hq1 hq2 hs'
  have hrun : ∀ {ad : Addr} {l h : Int}, a.eval x = .pointer (some ad) → OptIs a lo 0 l → OptIs a hi m h → 0 ≤ l → l ≤ h → h ≤ m → (execOp a.eval o).run P w = .ok (.value (sliced (some ad) l.toNat h.toNat m 1)) w := by
    intro ad l h e1 h1 h2 g0 g1 g2
    have hb := bounds_run (P := P) (w := w) (isSlice := false) (len := m) (cap := m) (m := m) (mx := none) h1 h2 (.inl ⟨rfl, rfl⟩) g0 g1 g2
    simp only [Option.map_none] at hb
    simp only [execOp, ho, Instr.sliceAt, Sem.run_bind, run_under ht, Result.andThen_ok, e1, Instr.sureAddr, Sem.run_pure, Option.map_none, hb, run_size hs]
    simp only [sliced, Option.map_some]
    split <;> rfl
  have hfin : ∀ {ad : Addr} {r : Ref} {l h : Int}, a.eval x = .pointer (some ad) → OptIs a lo 0 l → OptIs a hi m h → 0 ≤ l → l ≤ h → h ≤ m → RelV E (σ.slots ++ []) σ.objs (a.tmps.toList ++ []) w.heap (.slot s 0) (.asl r m) (.slice (some ad) m m) →
      RefsOk n (σ.slots ++ []) σ.objs (V.refs1 (.asl r m)) → (subV o.dst x' (.asl r m) l.toNat h.toNat false).run σ = some σ' → o.upon P a next Q ((execOp a.eval o).run P w) := by
    intro ad r l h e1 h1 h2 g0 g1 g2 hR hf hr2
    obtain ⟨E1, σ1, v', c1, c2, c3⟩ := subV_sound (base := base) (sz := 1) hC hR rfl hf (fun k hk => by cases hk) (by omega) (by omega) hr2
    exact value_end c1 c2 (WSame.refl _) c3 K (hrun e1 h1 h2 g0 g1 g2)
  cases v <;> first | (cases hr; done) | skip
  case ptr r =>
    change (gThere r <| gOptInt lo' 0 fun l => gOptInt hi' m fun h => if 0 ≤ l ∧ l ≤ h ∧ h ≤ m ∧ (Option.none : Option Opd).isNone = true then subV o.dst x' (.asl r m) l.toNat h.toNat false else .fail).run σ = some σ' at hr
    obtain ⟨_, hR⟩ := rel_leaf hS rfl (fun g => by simp)
    cases r with
    | obj ob off =>
      obtain ⟨e, hl⟩ := hR
      simp only [gThere] at hr
      obtain ⟨l, hr, h1⟩ := gOptInt_sound hC hlo hr
      obtain ⟨h, hr, h2⟩ := gOptInt_sound hC hhi hr
      rw [Prog.run_ite] at hr
      split at hr
      · rename_i hc
        exact hfin (r := .obj ob off) e h1 h2 hc.1 hc.2.1 hc.2.2.1 ⟨m, rfl, Nat.le_refl _, hl⟩ (by intro r hr; cases hr) hr
      · cases hr
    | elem hm g sz i off =>
      simp only [gThere] at hr
      replace hr := gElems_run hr
      obtain ⟨u, own, es, hu, hk, hr⟩ := hr
      obtain ⟨l, hr, h1⟩ := gOptInt_sound hC hlo hr
      obtain ⟨h, hr, h2⟩ := gOptInt_sound hC hhi hr
      rw [Prog.run_ite] at hr
      split at hr
      · rename_i hc
        obtain ⟨ad', e, hv⟩ := hR
        have hvl : valid (σ.slots ++ []) σ.objs hm g sz := by
          obtain ⟨d4, _⟩ := ct_real' (n := n) (hs := []) hC.sl hu (by rcases hk with ⟨rfl, _⟩ | ⟨rfl | rfl, _⟩ <;> exact fun g => by simp)
          exact ⟨u, d4, by rcases hk with ⟨rfl, _⟩ | ⟨rfl | rfl, _⟩ <;> rfl⟩
        obtain ⟨ad, l0, c0, b1, b2⟩ := hv hvl
        subst b2
        exact hfin (r := .elem hm g sz i off) e h1 h2 hc.1 hc.2.1 hc.2.2.1 ⟨_, m, rfl, Nat.le_refl _, rfl, fun _ => ⟨ad, l0, c0, b1, rfl⟩⟩ (fun r hr => hrf r (by simpa [V.refs, V.leaves, V.refs1] using hr)) hr
      · cases hr
  case iptr cs =>
    change (gOptInt lo' 0 fun l => gOptInt hi' m fun h => if 0 ≤ l ∧ l ≤ h ∧ h ≤ m ∧ (Option.none : Option Opd).isNone = true ∧ m ≤ cs.length then putO o.dst (.isl 0 1 (((cs.take m).drop l.toNat).take (h.toNat - l.toNat))) .ret else .fail).run σ = some σ' at hr
    obtain ⟨_, hR⟩ := rel_leaf hS rfl (fun g => by simp)
    obtain ⟨ad, e, hsp, hcell⟩ := hR
    obtain ⟨l, hr, h1⟩ := gOptInt_sound hC hlo hr
    obtain ⟨h, hr, h2⟩ := gOptInt_sound hC hhi hr
    rw [Prog.run_ite] at hr
    split at hr
    · rename_i hc
      obtain ⟨g0, g1, g2, _, g3⟩ := hc
      have hlen : (cs.take m).length = m := by simp; omega
      have hw : View E.imm w.heap 1 (cs.take m) (.slice (some ad) m m) (some ad) m := by
        refine ⟨by rw [hlen], by rw [hlen]; exact Nat.le_refl _, fun h => (by cases h), fun ad' h _ => (by cases h; exact hsp), fun u hu => ?_, fun i u j v hu hv => ?_⟩
        · obtain ⟨i, hi⟩ := List.mem_iff_getElem?.1 hu
          have := lt_of_getElem? hi
          rw [List.getElem?_take_of_lt (by omega)] at hi
          obtain ⟨hl, _⟩ := hcell i u hi
          rw [elemOk, cells_leaf hl]; exact ⟨rfl, by simpa using hl⟩
        · have := lt_of_getElem? hu
          rw [List.getElem?_take_of_lt (by omega)] at hu
          obtain ⟨hl, y, q1, q2, q3⟩ := hcell i u hu
          rw [cells_leaf hl] at hv
          cases j with
          | succ j => simp at hv
          | zero => simp at hv; subst hv; exact ⟨ad, y, rfl, by simpa using q2, q3⟩
      obtain ⟨a', e1, hw', ha⟩ := hw.sliced (l := l.toNat) (h := h.toNat) (m := m) (by omega) (by omega) (by omega) (Nat.le_refl _)
      have hI := isl_of_sub (g := 0) (es := cs.take m) (off := l.toNat) (len := h.toNat - l.toNat) (cap := m) hw' ha (by
        intro ad' i u j q0 hu hj
        cases q0
        have := lt_of_getElem? hu
        rw [List.getElem?_take_of_lt (by omega)] at hu
        obtain ⟨hl, y, q1, q2, q3⟩ := hcell i u hu
        rw [cells_leaf hl] at hj
        have : j = 0 := by simpa using hj
        subst this; simpa using q1)
      exact value_end (hC.pushLeaf (h := .slot 0 0) (v := .isl 0 1 _) rfl rfl hI (by intro r hr; cases hr)) (Grow.refl _ _ _) (WSame.refl _) hr K (hrun e h1 h2 g0 g1 g2)
    · cases hr
theorem op_sliceSlc {t e : TypeId} {sz : Nat} {x : Operand} {x' : Opd} {lo hi mx : Option Operand} {lo' hi' mx' : Option Opd} (ho : o.op = .slice t x lo hi mx) (ht : under P t = some (.slice e)) (hs : szOf P e = some sz) (hx : opd P t x = some x') (hlo : opdO lo = some lo') (hhi : opdO hi = some hi') (hmx : opdO mx = some mx')
    (hmh : hi = none → mx = none) (hC : CoreS n E σ [] a.tmps.toList [] w.heap)
    (hr : (opProg callee base o.dst (.slice (.slc sz) x' lo' hi' mx')).run σ = some σ') (K : NextOk n base E σ' a w next) : o.upon P a next Q ((execOp a.eval o).run P w) := by
  have hok := opd_ok a hx
  replace hr := opd_rel (v := .nil) hC hok hr
  obtain ⟨v, hr, hv, hrf, hh1, hh2⟩ := hr
  have hr' : (if (!(TK.slc sz).fits v) = true then Prog.fail else lenV v fun n => gOptInt lo' 0 fun l => gOptInt hi' n fun h => if 0 ≤ l ∧ l ≤ h ∧ h ≤ n then match (generalizing := false) mx' with | none => subV o.dst x' v l.toNat h.toNat false | some m => gInt m fun m => if m = h then subV o.dst x' v l.toNat h.toNat true else .fail else .fail).run σ = some σ' := by
    cases v <;> exact hr
  clear hr
  rw [Prog.run_ite] at hr'
  split at hr'
  · cases hr'
  · rename_i hf
    simp only [Bool.not_eq_true', Bool.not_eq_false] at hf
    have hsz : v.sz? = some sz := by
      cases v <;> simpa [TK.fits] using hf
    obtain ⟨s, hS, hs'⟩ := hv
    have hl : v.leaf = true ∧ ∀ g, v ≠ .gone g := by
      cases v <;> first | (simp [V.sz?] at hsz; done) | exact ⟨rfl, fun g => by simp⟩
    replace hr' := lenV_rel hS hf hr'; obtain ⟨m, hr', hcase⟩ := hr'
    obtain ⟨_, hR⟩ := rel_leaf hS hl.1 hl.2
    replace hr' := gOptInt_sound hC hlo hr'; obtain ⟨l, hr', h1⟩ := hr'
    replace hr' := gOptInt_sound hC hhi hr'; obtain ⟨h, hr', h2⟩ := hr'
    rw [Prog.run_ite] at hr'
    split at hr'
    · rename_i hc
      obtain ⟨g0, g1, g2⟩ := hc
      obtain ⟨a0, cap, e, hle⟩ := slice_le hR hsz
      have hm : m = v.lenOf := by
        rcases hcase with ⟨h, _⟩ | ⟨_, _, a1, c1, e1⟩ | ⟨h, _⟩
        · cases h
        · rw [e] at e1; injection e1 with _ e2 _; exact e2.symm
        · cases h
      subst hm
      have hfin : ∀ capped, (capped = true → ∃ xm km, mx = some xm ∧ a.eval xm = .int km h) → (capped = false → mx = none) → (subV o.dst x' v l.toNat h.toNat capped).run σ = some σ' → o.upon P a next Q ((execOp a.eval o).run P w) := by
        intro capped hc1 hc2 hr2
        have hR' := hR
        rw [e] at hR'
        obtain ⟨E1, σ1, v', c1, c2, c3⟩ := subV_sound (base := base) (s := s) (x' := x') hC hR' hsz (fun r hr => hrf r (by rw [V.refs, leaves_leaf hl.1]; simpa using hr)) (fun k hk hr3 => by
          obtain ⟨E1, σ1, b1, b2, _, b4⟩ := grab_sound (base := base) hC ⟨s, hS, hs'⟩ hrf hh1 hh2 hok hr3
          rw [e] at b1
          exact ⟨E1, σ1, b1, b2, b4⟩) (show l.toNat ≤ h.toNat by omega) (by omega) hr2
        have hb : (Instr.sliceBounds true v.lenOf cap (lo.map a.eval) (hi.map a.eval) (mx.map a.eval)).run P w = .ok (l.toNat, h.toNat, if capped = true then h.toNat else cap) w := by
          refine bounds_run h1 h2 ?_ g0 g1 (by omega)
          cases capped with
          | false => exact .inl ⟨hc2 rfl, rfl⟩
          | true =>
            obtain ⟨xm, km, e1, e2⟩ := hc1 rfl
            exact .inr ⟨(fun hn => by have := hmh hn; rw [e1] at this; simp at this), rfl, xm, km, e1, e2⟩
        refine value_end c1 c2 (WSame.refl _) c3 K ?_
        simp only [execOp, ho, Instr.sliceAt, Sem.run_bind, run_under ht, Result.andThen_ok, e, Instr.slice, hb, run_size hs, Sem.run_pure, sliced]
      split at hr'
      · refine hfin false (fun h => by cases h) (fun _ => ?_) hr'
        cases mx with
        | none => rfl
        | some xm => obtain ⟨y, hy, e⟩ := Option.map_eq_some_iff.1 (show (opd0 xm).map some = some none from hmx); cases e
      · rename_i m'
        cases mx with
        | none => cases hmx
        | some xm =>
          obtain ⟨y, hy, e⟩ := Option.map_eq_some_iff.1 (show (opd0 xm).map some = some (some m') from hmx)
          cases e
          replace hr' := gInt_sound hC (opd0_ok a hy) hr'
          obtain ⟨km, mm, e1, hr'⟩ := hr'
          rw [Prog.run_ite] at hr'
          split at hr'
          · rename_i hmm
            subst hmm
            exact hfin true (fun _ => ⟨xm, km, rfl, e1⟩) (fun h => by cases h) hr'
          · cases hr'
    · cases hr'
theorem op_sliceStr {t : TypeId} {x : Operand} {x' : Opd} {lo hi : Option Operand} {lo' hi' : Option Opd} (ho : o.op = .slice t x lo hi none) (ht : under P t = some .string) (hx : opd P t x = some x') (hlo : opdO lo = some lo') (hhi : opdO hi = some hi')
    (hC : CoreS n E σ [] a.tmps.toList [] w.heap)
    (hr : (opProg callee base o.dst (.slice .str x' lo' hi' none)).run σ = some σ') (K : NextOk n base E σ' a w next) : o.upon P a next Q ((execOp a.eval o).run P w) := by
  have hok := opd_ok a hx
  replace hr := opd_rel (v := .nil) hC hok hr
  obtain ⟨v, hr, ⟨s, hS, hs'⟩, hrf, hq1, hq2⟩ := hr
  clear hq1 hq2 hs'
  have hr' : (if (!TK.str.fits v) = true then Prog.fail else lenV v fun n => gOptInt lo' 0 fun l => gOptInt hi' n fun h => if 0 ≤ l ∧ l ≤ h ∧ h ≤ n then subV o.dst x' v l.toNat h.toNat false else .fail).run σ = some σ' := by
    cases v <;> exact hr
  clear hr
  rw [Prog.run_ite] at hr'
  split at hr'
  · cases hr'
  · rename_i hf
    cases v <;> first | (simp [TK.fits] at hf; done) | skip
    rename_i b
    have e := slot_toVal (y := .string ⟨b.toArray⟩) hS rfl
    simp only [lenV] at hr'
    replace hr' := gOptInt_sound hC hlo hr'; obtain ⟨l, hr', h1⟩ := hr'
    replace hr' := gOptInt_sound hC hhi hr'; obtain ⟨h, hr', h2⟩ := hr'
    rw [Prog.run_ite] at hr'
    split at hr'
    · rename_i hc
      obtain ⟨g0, g1, g2⟩ := hc
      refine plain_end hC (y := .string ⟨((b.drop l.toNat).take (h.toNat - l.toNat)).toArray⟩) rfl hr' K ?_
      have hb : (Instr.sliceBounds false b.length b.length (lo.map a.eval) (hi.map a.eval) none).run P w = .ok (l.toNat, h.toNat, b.length) w := by
        have := bounds_run (P := P) (w := w) (isSlice := false) (mx := none) h1 h2 (.inl ⟨rfl, rfl⟩) g0 g1 (show h ≤ (b.length : Int) from g2)
        simpa using this
      have hsz : (⟨b.toArray⟩ : ByteArray).size = b.length := size_mk b
      simp only [execOp, ho, Instr.sliceAt, Sem.run_bind, run_under ht, Result.andThen_ok, e, Instr.slice, Option.map_none, hsz, hb, Sem.run_pure, ByteArray.extract_mk]
      simp [hb, ByteArray.extract_mk]
    · cases hr'
end
end Go.Vq
namespace Go.Vq
section
variable {n : Nat} {E E' : Env} {slots : List V} {objs : List (Option Obj)} {vals : List Value} {H H' : Array Go.Obj}
theorem Core.change (hC : Core n E slots objs vals H) (ca : E'.addr = E.addr) (c1 : ∀ b i, E.imm b i → E'.imm b i ∧ cellAt H' b i = cellAt H b i)
    (ck : ∀ b t, E.tag b = t → ((∃ o, t = .obj o) ∨ ∃ h, (t = .home h ∨ ∃ m, t = .tail h m) ∧ ∀ s i, h = .slot s i → s < slots.length) → E'.tag b = t ∧ H'[b]? = H[b]?)
    (cf : ∀ b, H'.size ≤ b → E'.tag b = .other) : Core n E' slots objs vals H' := by
  have hk : HomesKept n E slots objs vals H E' slots objs vals H' := by
    intro h u _ hu _
    refine ⟨u, hu, Nat.le_refl _, .inl ⟨rfl, ?_⟩⟩
    cases h with
    | slot s i => rfl
    | obj o' i =>
      simp only [ct] at hu
      split at hu
      · rename_i cs' ho'
        obtain ⟨arr', T', f', h1, h2, _⟩ := hC.obj o' cs' ho'
        have := (ck _ _ h2 (.inl ⟨_, rfl⟩)).2
        simp only [hd, ca, cellAt, this]
      · cases hu
  refine ⟨hC.len, hC.real, fun s u y hs hy => ⟨(hC.slot s u y hs hy).1, fun i w z hw hz => ?_⟩, fun o cs ho => ?_, cf, fun s u hs r hr => ?_⟩
  · have hslt := lt_of_getElem? hs
    exact hC.leaf hk c1 ca hs hy hw hz (fun _ b hb => ck b _ hb (.inr ⟨_, .inl rfl, fun s' i' e => by cases e; exact hslt⟩)) (fun _ b m hb => ck b _ hb (.inr ⟨_, .inr ⟨m, rfl⟩, fun s' i' e => by cases e; exact hslt⟩))
  · exact hC.objKept c1 ca ho (fun h => ck _ _ h (.inl ⟨_, rfl⟩)) (fun _ _ _ _ b hb => ck b _ hb (.inr ⟨_, .inl rfl, fun s' i' e => by cases e⟩)) (fun _ _ _ _ b m hb => ck b _ hb (.inr ⟨_, .inr ⟨m, rfl⟩, fun s' i' e => by cases e⟩))
  · have := hC.refs s u hs r hr
    exact ⟨this.1, hk.bound this⟩
end
section
variable {P : Program} {n base : Nat} {E E' : Env} {σ σ' : St} {hs : List V} {ts xs : List Value} {H H' : Array Go.Obj}
variable {callee : Callee} {o : Oper} {a : Act} {w : World} {next : Act → World → Prop} {Q : Exit → Act → World → Prop}
structure Src (P : Program) (imm : Nat → Nat → Prop) (H : Array Go.Obj) (sz : Nat) (es : List V) (x : Value) (news : List Value) : Prop where
  len : ∀ w : World, (Builtin.lenOf x).run P w = .ok es.length w
  cells : ∀ (w : World) (m : Nat), w.heap = H → m ≤ es.length → (Builtin.firstCells sz m x).run P w = .ok (news.take (m * sz)).toArray w
  row : RowRel imm H sz es news.toArray
  size : news.length = es.length * sz
  leaf : ∀ y ∈ news, leafX y = true
theorem cellsAt_take (H : Array Go.Obj) (ad : Addr) (m k : Nat) (h : k ≤ m) : (cellsAt H ad m).take k = cellsAt H ad k := by
  simp only [cellsAt, ← List.map_take, List.take_range, Nat.min_eq_left h]
theorem View.src {imm : Nat → Nat → Prop} {sz cap : Nat} {es : List V} {x : Value} {a : Option Addr} (hw : View imm H sz es x a cap) (P : Program) : ∃ news, Src P imm H sz es x news := by
  have he := hw.eq
  cases a with
  | none =>
    have h0 : es = [] := by
      have := hw.nil rfl
      have := hw.le
      exact List.eq_nil_of_length_eq_zero (by omega)
    subst h0
    refine ⟨[], ⟨fun w => by rw [he]; simp [Builtin.lenOf], fun w m hH hm => ?_, ⟨fun e h => by simp at h, fun i e j v h => by simp at h⟩, by simp, fun y h => by simp at h⟩⟩
    rw [he]; simp [Builtin.firstCells]
  | some ad =>
    let w0 : World := { (default : World) with heap := H }
    have hrel := (View.load (P := P) (w := w0) (m := es.length) hw (Nat.le_refl _)).2
    refine ⟨cellsAt H ad (es.length * sz), ⟨fun w => by rw [he]; simp [Builtin.lenOf], fun w m hH hm => ?_, ⟨hw.elems.1, fun i e j v h1 h2 => ?_⟩, cellsAt_len _ _ _, fun y hy => ?_⟩⟩
    · subst hH
      have := (View.load (P := P) hw hm).1
      rw [he]
      simp only [Builtin.firstCells]
      rw [this, cellsAt_take _ _ _ _ (Nat.mul_le_mul_right _ hm)]
    · obtain ⟨y, e1, e2⟩ := hrel i e j v (lt_of_getElem? h1) h1 h2
      exact ⟨y, by simpa using e1, e2⟩
    · obtain ⟨k, hk⟩ := List.mem_iff_getElem?.1 hy
      have hlt := lt_of_getElem? hk
      rw [cellsAt_len] at hlt
      have hz : 0 < sz := by
        rcases Nat.eq_zero_or_pos sz with h | h
        · subst h; simp at hlt
        · exact h
      have h1 : k / sz < es.length := Nat.div_lt_of_lt_mul (by rw [Nat.mul_comm]; exact hlt)
      obtain ⟨e, hee⟩ := exists_getElem? (l := es) (i := k / sz) h1
      have hok := hw.elems.1 e (List.mem_of_getElem? hee)
      obtain ⟨v, hv⟩ := exists_getElem? (l := e.cells) (i := k % sz) (by rw [hok.1]; exact Nat.mod_lt _ hz)
      obtain ⟨y', e1, e2⟩ := hrel _ e _ v h1 hee hv
      rw [Nat.div_add_mod', show w0.heap = H from rfl, hk] at e1
      cases e1
      exact relI_leafX e2 (hok.2 v (List.mem_of_getElem? hv))
theorem str_src {imm : Nat → Nat → Prop} (P : Program) (H : Array Go.Obj) (b : List UInt8) : Src P imm H 1 (bytesV b) (.string ⟨b.toArray⟩) (b.map fun c => .int .u8 c.toNat) := by
  have hsz : (⟨b.toArray⟩ : ByteArray).size = b.length := size_mk b
  refine ⟨fun w => by simp [Builtin.lenOf, hsz, bytesV], fun w m hH hm => ?_, ?_, by simp [bytesV], fun y hy => ?_⟩
  · simp only [Builtin.firstCells, ByteArray.extract_mk, Sem.run_pure, Nat.mul_one]
    congr 1
    simp [List.map_take]
  · have := bytes_row (imm := imm) (H := H) b []
    simpa using this
  · obtain ⟨c, _, rfl⟩ := List.mem_map.1 hy
    rfl
theorem Src.mono {imm imm' : Nat → Nat → Prop} {sz : Nat} {es : List V} {x : Value} {news : List Value} (h : Src P imm H sz es x news) (hm : ∀ b i, imm b i → imm' b i ∧ cellAt H b i = cellAt H b i) : Src P imm' H sz es x news :=
  ⟨h.len, h.cells, h.row.mono hm, h.size, h.leaf⟩
theorem RowRel.append {imm : Nat → Nat → Prop} {sz : Nat} {es fs : List V} {l1 l2 l3 : List Value} (h1 : RowRel imm H sz es l1.toArray) (h2 : RowRel imm H sz fs l2.toArray) (hl1 : l1.length = es.length * sz) (hl2 : l2.length = fs.length * sz) :
    RowRel imm H sz (es ++ fs) (l1 ++ l2 ++ l3).toArray := by
  refine ⟨fun e he => (List.mem_append.1 he).elim (h1.ok e) (h2.ok e), fun i e j v hi hj => ?_⟩
  have hrow : ∀ k m, k < m → k * sz + sz ≤ m * sz := by
    intro k m hk
    have := Nat.mul_le_mul_right sz hk
    rw [Nat.succ_mul] at this; exact this
  rcases Nat.lt_or_ge i es.length with hlt | hge
  · rw [List.getElem?_append_left hlt] at hi
    obtain ⟨x, e1, e2⟩ := h1.cell i e j v hi hj
    have := (lt_of_getElem? hj)
    rw [(h1.ok e (List.mem_of_getElem? hi)).1] at this
    have := hrow i _ hlt
    refine ⟨x, ?_, e2⟩
    rw [List.getElem?_toArray] at e1 ⊢
    rw [List.append_assoc, List.getElem?_append_left (by omega)]; exact e1
  · rw [List.getElem?_append_right hge] at hi
    obtain ⟨x, e1, e2⟩ := h2.cell _ e j v hi hj
    have hlt := lt_of_getElem? hi
    have := (lt_of_getElem? hj)
    rw [(h2.ok e (List.mem_of_getElem? hi)).1] at this
    have := hrow _ _ hlt
    refine ⟨x, ?_, e2⟩
    rw [List.getElem?_toArray] at e1 ⊢
    have h3 : i * sz = es.length * sz + (i - es.length) * sz := by rw [← Nat.add_mul]; congr 1; omega
    rw [List.append_assoc, List.getElem?_append_right (by omega), List.getElem?_append_left (by omega), ← e1]
    congr 1; omega
theorem notInt {d : TypeDesc} (h : ∀ k, d ≠ .int k) : Go.Builtin.append_.match_1 (fun _ => Bool) d (fun _ => true) (fun _ => false) = false := by
  cases d <;> first | rfl | exact absurd rfl (h _)
theorem append_room {t u e : TypeId} {ty : TypeId} {d : TypeDesc} {sz len cap : Nat} {xs : List V} {x : Value} {news : List Value} {imm : Nat → Nat → Prop} {base0 : Option Addr} (ht : under P t = some (.slice e)) (hu : under P u = some d) (hd' : ∀ k, d ≠ .int k) (hs : szOf P e = some sz)
    (hx : Src P imm w.heap sz xs x news) (hroom : len + xs.length ≤ cap) {w' : World} (hst : ∀ ad, base0 = some ad → (storeCells (ad.add (len * sz)) news).run P w = .ok () w') (hno : base0 = none → w' = w) :
    (Builtin.append_ #[t, u] ty #[.slice base0 len cap, x]).run P w = .ok (.slice base0 (len + xs.length) cap) w' := by
  have hf := hx.cells w xs.length rfl (Nat.le_refl _)
  rw [← hx.size, List.take_length] at hf
  cases base0 with
  | none =>
    have := hno rfl
    subst this
    simp [Builtin.append_, run_under ht, run_under hu, run_size hs, hx.len, hroom, hf, notInt hd']
  | some ad =>
    have h1 := hst ad rfl
    simp [Builtin.append_, run_under ht, run_under hu, run_size hs, hx.len, hroom, hf, h1, notInt hd']
theorem append_grow {t u e : TypeId} {ty : TypeId} {d : TypeDesc} {sz bytes len cap : Nat} {es xs : List V} {x : Value} {olds news : List Value} {imm imm2 : Nat → Nat → Prop} {base0 : Option Addr} {zs : List V} (ht : under P t = some (.slice e)) (hu : under P u = some d) (hd' : ∀ k, d ≠ .int k) (hs : szOf P e = some sz) (hb : bytesOf P e = some bytes)
    (hz : zeroOf P e = some zs) (hx : Src P imm w.heap sz xs x news) (ho : Src P imm2 w.heap sz es (.slice base0 len cap) olds) (hlen : len = es.length) (hroom : cap < len + xs.length) (hb0 : bytes ≠ 0) (hbig : (len + xs.length) * bytes ≤ 140737488355328) :
    ∃ inf z, P.info? e = some inf ∧ inf.zero = some z ∧ z.cells.size = zs.length ∧
    (Builtin.append_ #[t, u] ty #[.slice base0 len cap, x]).run P w = .ok (.slice (some ⟨w.heap.size, 0, none⟩) (len + xs.length) (grownCap w (len + xs.length) cap e))
      { w.drew with heap := w.heap.push (.cells (olds ++ news ++ (Builtin.zeroCells z.cells (grownCap w (len + xs.length) cap e - (len + xs.length))).toList).toArray e (0, 0)) } := by
  obtain ⟨inf, z, hi, hz1, h1, h2⟩ := zeroOf_ok hz
  have hinf : inf.size = sz := by simp only [szOf, hi, Option.map_some, Option.some.injEq] at hs; exact hs
  have hby : inf.bytes = bytes := by simp only [bytesOf, hi, Option.map_some, Option.some.injEq] at hb; exact hb
  refine ⟨inf, z, hi, hz1, h1.symm, ?_⟩
  subst hlen
  have hf := hx.cells w.drew xs.length rfl (Nat.le_refl _)
  rw [← hx.size, List.take_length] at hf
  have hfo := ho.cells w.drew es.length rfl (Nat.le_refl _)
  rw [← ho.size, List.take_length] at hfo
  have hn : ¬ (es.length + xs.length ≤ cap) := by omega
  have hfit := growslice_fits hroom hbig
  have h48 : ¬ (281474976710656 < Builtin.nextslicecap (es.length + xs.length) cap * bytes) := by omega
  have hq : (Question.appendCap (es.length + xs.length) cap e).cut (w.tape w.drawn (Question.appendCap (es.length + xs.length) cap e)) = grownCap w (es.length + xs.length) cap e := rfl
  simp [Builtin.append_, run_under ht, run_under hu, run_size hs, typeInfo, zeroValue, hi, hz1, hby, hb0, hx.len, hn, h48, Question.forced, hf, hfo, Go.newRow, hq, notInt hd']
  have e1 : ∀ Z : Array Value, olds.toArray ++ (news.toArray ++ Z) = (olds ++ (news ++ Z.toList)).toArray := fun Z => by apply Array.ext'; simp
  rw [e1]; rfl
end
end Go.Vq
