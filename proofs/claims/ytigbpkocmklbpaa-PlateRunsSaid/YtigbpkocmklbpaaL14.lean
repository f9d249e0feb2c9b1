/- The V-level machine, run on values that are not known (no law of Go is stated here). -/
import Derived.Test.YtigbpkocmklbpaaL9
import Derived.KernelRfl
set_option linter.unusedVariables false
set_option linter.unusedSimpArgs false
set_option linter.unusedSectionVars false
namespace Go.Vq
namespace L1
open Go
set_option maxRecDepth 1000000
set_option maxHeartbeats 8000000
section
variable (G : VProg)
theorem spL_lr {off : Bool} {left : Int} (hs : spO off left = false) (hl : LR left) : LR (spL off left) := by
  have h1 := hl.1; have h2 := hl.2
  unfold spL
  unfold spO at hs
  rw [hs, if_neg (by simp)]
  constructor <;> split <;> omega
theorem put6 (hP : Plate G) (hR : RefP G) (h17 : ∀ (v n : Nat), 70 ≤ n → call G n 17 [.int .u8 (v : Int)] [] = some (cellV (cellOf v), [])) (acts : List (Int × Int × Int × Nat)) (hv : ∀ a ∈ acts, a.2.2.2 < 256) (n0 : Nat) (hn0 : n0 ≤ 4096) (a : PS) (ha : Ok6 n0 a) (hla : acts.length ≤ 200) (hi : a.i < acts.length) (hk : acts[a.i].1 = 0) (m : Nat) (hm : 400 ≤ m) (Q : Out → St → Prop) (J : PS → Prop) (hJ : ∀ b, b.i = a.i + 1 → Ok6 n0 b → J b) :
    W (call G m) (itersOf G) (exec G m) 0 body6 (S6 acts a) (Qrnd (some [1, 5, 6, 31, 32, 33]) 0 (S6 acts) J Q) := by
  obtain ⟨i, es, fz, ls, off, left, lj⟩ := a
  obtain ⟨hlen, h64, hw, hsm, hl⟩ := ha
  simp only at hlen h64 hw hsm hl hi hJ
  obtain ⟨⟨kd, at', torn, v⟩, hact⟩ : ∃ x, x = acts[i] := ⟨_, rfl⟩
  have hv' : v < 256 := by have := hv acts[i] (List.getElem_mem _); rw [← hact] at this; exact this
  simp only [← hact] at hk
  subst hk
  have hg : (acts.map actV)[i]? = some (actV (0, at', torn, v)) := by rw [hact]; simp [hi]
  have hlt : decide ((i : Int) < (acts.length : Int)) = true := by simp; omega
  have hinc := inc64 i (by omega)
  have hil : (i : Int) < (acts.length : Int) := by omega
  clear hv
  obtain ⟨ca, hca, hc⟩ : ∃ c, c = cellOf v ∧ c.length = 64 := ⟨_, rfl, rfl⟩
  have s1 : ∀ m, 100 ≤ m → call G m 17 [.int .u8 (v : Int)] [] = some (cellV ca, []) := fun m hm => by rw [hca]; exact h17 v m (by omega)
  obtain ⟨e, ls', off', left', t1, t2, hok⟩ : ∃ (e : Int) (ls' : List (Nat × List Nat)) (off' : Bool) (left' : Int), (∀ m, 100 ≤ m → call G m 16 [p0, .int .i64 at', cellV ca] [plateO es fz ls off left] = some (.int .i64 e, [plateO es fz ls' off' left'])) ∧
      (∀ m, 100 ≤ m → call G m 26 [p0, .int .i64 at', cellV ca] [refP es ls off left lj] = some (.int .i64 e, [refP es ls' off' left' lj])) ∧ Ok6 n0 ⟨i + 1, es, fz, ls', off', left', lj⟩ := by
    have q1 := fun m (hm : 100 ≤ m) => hP.put at' ca hc es fz ls off left (by omega) hl m (by omega)
    have q2 := fun m (hm : 100 ≤ m) => hR.put at' ca hc es ls off left lj h64 (fun w hx => (hw w hx).2) (by omega) hl m (by omega)
    cases hin : inR at' es.length
    · simp only [hin, Bool.false_eq_true, if_false] at q1 q2
      exact ⟨_, _, _, _, q1, q2, hlen, h64, hw, by simp only; omega, hl⟩
    · cases hs : spO off left
      · simp only [hin, hs, Bool.false_eq_true, if_false, if_true] at q1 q2
        refine ⟨_, _, _, _, q1, q2, hlen, h64, ?_, by simp only [List.length_append, List.length_cons, List.length_nil]; omega, spL_lr hs hl⟩
        intro w hx
        rcases List.mem_append.1 hx with hx | hx
        · exact hw w hx
        · simp at hx; subst hx
          exact ⟨by simp [inR] at hin ⊢; omega, hc⟩
      · simp only [hin, hs, if_true] at q1 q2
        exact ⟨_, _, _, _, q1, q2, hlen, h64, hw, by simp only; omega, hl⟩
  have t3 : ∀ m, 100 ≤ m → call G m 19 [p0] [plateO es fz ls' off' left'] = some (.int .i64 ls'.length, [plateO es fz ls' off' left']) := fun m hm => hP.loose es fz ls' off' left' m (by omega)
  have t4 : ∀ m, 100 ≤ m → call G m 23 [p0] [plateO es fz ls' off' left'] = some (.bool off', [plateO es fz ls' off' left']) := fun m hm => hP.off es fz ls' off' left' m (by omega)
  have t5 : ∀ m, 100 ≤ m → call G m 24 [p0] [plateO es fz ls' off' left'] = some (.int .i64 es.length, [plateO es fz ls' off' left']) := fun m hm => hP.len es fz ls' off' left' m (by omega)
  have hfl := foldl_wr_len es ls'
  have hj := hJ _ rfl hok
  clear hok hJ hw hsm
  cases fz
  all_goals
    unfold S6 body6
    (refine Vq.runO (And.intro hlt (And.intro hinc (And.intro hg (And.intro hfl (And.intro hc (And.intro (take_by hc) (And.intro (drop_by hc) trivial))))))) (And.intro (Vq.apart_by) trivial) ?_)
  all_goals
    refine Qr_n _ ?_ hj
    show _ = _
    kernel_rfl
end
end L1
end Go.Vq

namespace Go.Vq
namespace L1
open Go
set_option maxRecDepth 1000000
set_option maxHeartbeats 8000000
section
variable (G : VProg)
theorem flush6 (hP : Plate G) (hR : RefP G) (h17 : ∀ (v n : Nat), 70 ≤ n → call G n 17 [.int .u8 (v : Int)] [] = some (cellV (cellOf v), [])) (acts : List (Int × Int × Int × Nat)) (hv : ∀ a ∈ acts, a.2.2.2 < 256) (n0 : Nat) (hn0 : n0 ≤ 4096) (a : PS) (ha : Ok6 n0 a) (hla : acts.length ≤ 200) (hi : a.i < acts.length) (hk : acts[a.i].1 = 1) (m : Nat) (hm : 400 ≤ m) (Q : Out → St → Prop) (J : PS → Prop) (hJ : ∀ b, b.i = a.i + 1 → Ok6 n0 b → J b) :
    W (call G m) (itersOf G) (exec G m) 0 body6 (S6 acts a) (Qrnd (some [1, 5, 6, 31, 32, 33]) 0 (S6 acts) J Q) := by
  obtain ⟨i, es, fz, ls, off, left, lj⟩ := a
  obtain ⟨hlen, h64, hw, hsm, hl⟩ := ha
  simp only at hlen h64 hw hsm hl hi hJ
  obtain ⟨⟨kd, at', torn, v⟩, hact⟩ : ∃ x, x = acts[i] := ⟨_, rfl⟩
  have hv' : v < 256 := by have := hv acts[i] (List.getElem_mem _); rw [← hact] at this; exact this
  simp only [← hact] at hk
  subst hk
  have hg : (acts.map actV)[i]? = some (actV (1, at', torn, v)) := by rw [hact]; simp [hi]
  have hlt : decide ((i : Int) < (acts.length : Int)) = true := by simp; omega
  have hinc := inc64 i (by omega)
  have hil : (i : Int) < (acts.length : Int) := by omega
  clear hv
  obtain ⟨e, es', fz', ls', off', left', t1, t2, hok⟩ : ∃ (e : Int) (es' : List (List Nat)) (fz' : Bool) (ls' : List (Nat × List Nat)) (off' : Bool) (left' : Int), (∀ m, 300 ≤ m → call G m 18 [p0] [plateO es fz ls off left] = some (.int .i64 e, [plateO es' fz' ls' off' left'])) ∧
      (∀ m, 300 ≤ m → call G m 27 [p0] [refP es ls off left lj] = some (.int .i64 e, [refP es' ls' off' left' lj])) ∧ Ok6 n0 ⟨i + 1, es', fz', ls', off', left', lj⟩ := by
    have q1 := fun m (hm : 300 ≤ m) => hP.flush es fz ls off left h64 hw (by omega) hl m (by omega)
    have q2 := fun m (hm : 300 ≤ m) => hR.flush es ls off left lj (by omega) hl m (by omega)
    cases hs : spO off left
    · simp only [hs, Bool.false_eq_true, if_false] at q1 q2
      exact ⟨_, _, _, _, _, _, q1, q2, by simp only [foldl_wr_len]; exact hlen, foldl_wr_64 h64 (fun w hx => (hw w hx).2), by simp, by simp, spL_lr hs hl⟩
    · simp only [hs, if_true] at q1 q2
      exact ⟨_, _, _, _, _, _, q1, q2, hlen, h64, hw, by simp only; omega, hl⟩
  have t3 : ∀ m, 100 ≤ m → call G m 19 [p0] [plateO es' fz' ls' off' left'] = some (.int .i64 ls'.length, [plateO es' fz' ls' off' left']) := fun m hm => hP.loose es' fz' ls' off' left' m (by omega)
  have t4 : ∀ m, 100 ≤ m → call G m 23 [p0] [plateO es' fz' ls' off' left'] = some (.bool off', [plateO es' fz' ls' off' left']) := fun m hm => hP.off es' fz' ls' off' left' m (by omega)
  have t5 : ∀ m, 100 ≤ m → call G m 24 [p0] [plateO es' fz' ls' off' left'] = some (.int .i64 es'.length, [plateO es' fz' ls' off' left']) := fun m hm => hP.len es' fz' ls' off' left' m (by omega)
  have hfl := foldl_wr_len es' ls'
  have hj := hJ _ rfl hok
  clear hok hJ hw hsm
  cases fz <;> cases fz'
  all_goals
    unfold S6 body6
    (refine Vq.runO (And.intro hlt (And.intro hinc (And.intro hg (And.intro hfl trivial)))) (And.intro (Vq.apart_by) trivial) ?_)
  all_goals
    refine Qr_n _ ?_ hj
    show _ = _
    kernel_rfl
theorem limit6 (hP : Plate G) (hR : RefP G) (h17 : ∀ (v n : Nat), 70 ≤ n → call G n 17 [.int .u8 (v : Int)] [] = some (cellV (cellOf v), [])) (acts : List (Int × Int × Int × Nat)) (hv : ∀ a ∈ acts, a.2.2.2 < 256) (n0 : Nat) (hn0 : n0 ≤ 4096) (a : PS) (ha : Ok6 n0 a) (hla : acts.length ≤ 200) (hi : a.i < acts.length) (hk : acts[a.i].1 = 3) (hr : acts[a.i].2.1 < 9223372036854775808) (m : Nat) (hm : 400 ≤ m) (Q : Out → St → Prop) (J : PS → Prop) (hJ : ∀ b, b.i = a.i + 1 → Ok6 n0 b → J b) :
    W (call G m) (itersOf G) (exec G m) 0 body6 (S6 acts a) (Qrnd (some [1, 5, 6, 31, 32, 33]) 0 (S6 acts) J Q) := by
  obtain ⟨i, es, fz, ls, off, left, lj⟩ := a
  obtain ⟨hlen, h64, hw, hsm, hl⟩ := ha
  simp only at hlen h64 hw hsm hl hi hJ
  obtain ⟨⟨kd, at', torn, v⟩, hact⟩ : ∃ x, x = acts[i] := ⟨_, rfl⟩
  have hv' : v < 256 := by have := hv acts[i] (List.getElem_mem _); rw [← hact] at this; exact this
  simp only [← hact] at hk hr
  subst hk
  have hg : (acts.map actV)[i]? = some (actV (3, at', torn, v)) := by rw [hact]; simp [hi]
  have hlt : decide ((i : Int) < (acts.length : Int)) = true := by simp; omega
  have hinc := inc64 i (by omega)
  have hil : (i : Int) < (acts.length : Int) := by omega
  clear hv
  have t1 : ∀ m, 100 ≤ m → call G m 22 [p0, .int .i64 at'] [plateO es fz ls off left] = some (.tup [], [plateO es fz ls off (if -1 > at' then -1 else at')]) := fun m hm => hP.limit at' es fz ls off left m (by omega)
  have t2 : ∀ m, 100 ≤ m → call G m 29 [p0, .int .i64 at'] [refP es ls off left lj] = some (.tup [], [refP es ls off (if -1 > at' then -1 else at') at']) := fun m hm => hR.limit at' es ls off left lj m (by omega)
  obtain ⟨left', hle⟩ : ∃ l, l = (if -1 > at' then -1 else at') := ⟨_, rfl⟩
  have hok : Ok6 n0 ⟨i + 1, es, fz, ls, off, left', at'⟩ := ⟨hlen, h64, hw, by simp only; omega, by show LR left'; rw [hle]; constructor <;> split <;> omega⟩
  rw [← hle] at t1 t2
  have t3 : ∀ m, 100 ≤ m → call G m 19 [p0] [plateO es fz ls off left'] = some (.int .i64 ls.length, [plateO es fz ls off left']) := fun m hm => hP.loose es fz ls off left' m (by omega)
  have t4 : ∀ m, 100 ≤ m → call G m 23 [p0] [plateO es fz ls off left'] = some (.bool off, [plateO es fz ls off left']) := fun m hm => hP.off es fz ls off left' m (by omega)
  have t5 : ∀ m, 100 ≤ m → call G m 24 [p0] [plateO es fz ls off left'] = some (.int .i64 es.length, [plateO es fz ls off left']) := fun m hm => hP.len es fz ls off left' m (by omega)
  have hfl := foldl_wr_len es ls
  have hj := hJ _ rfl hok
  clear hok hJ hw hsm
  cases fz
  all_goals
    unfold S6 body6
    (refine Vq.runO (And.intro hlt (And.intro hinc (And.intro hg (And.intro hfl trivial)))) (And.intro (Vq.apart_by) trivial) ?_)
  all_goals
    refine Qr_n _ ?_ hj
    show _ = _
    kernel_rfl
end
end L1
end Go.Vq

namespace Go.Vq
namespace L1
open Go
set_option maxRecDepth 1000000
set_option maxHeartbeats 8000000
section
variable (G : VProg)
theorem get6 (hP : Plate G) (hR : RefP G) (h17 : ∀ (v n : Nat), 70 ≤ n → call G n 17 [.int .u8 (v : Int)] [] = some (cellV (cellOf v), [])) (acts : List (Int × Int × Int × Nat)) (hv : ∀ a ∈ acts, a.2.2.2 < 256) (n0 : Nat) (hn0 : n0 ≤ 4096) (a : PS) (ha : Ok6 n0 a) (hla : acts.length ≤ 200) (hi : a.i < acts.length) (hk : acts[a.i].1 = 2) (m : Nat) (hm : 400 ≤ m) (Q : Out → St → Prop) (J : PS → Prop) (hJ : ∀ b, b.i = a.i + 1 → Ok6 n0 b → J b) :
    W (call G m) (itersOf G) (exec G m) 0 body6 (S6 acts a) (Qrnd (some [1, 5, 6, 31, 32, 33]) 0 (S6 acts) J Q) := by
  obtain ⟨i, es, fz, ls, off, left, lj⟩ := a
  obtain ⟨hlen, h64, hw, hsm, hl⟩ := ha
  simp only at hlen h64 hw hsm hl hi hJ
  obtain ⟨⟨kd, at', torn, v⟩, hact⟩ : ∃ x, x = acts[i] := ⟨_, rfl⟩
  have hv' : v < 256 := by have := hv acts[i] (List.getElem_mem _); rw [← hact] at this; exact this
  simp only [← hact] at hk
  subst hk
  have hg : (acts.map actV)[i]? = some (actV (2, at', torn, v)) := by rw [hact]; simp [hi]
  have hlt : decide ((i : Int) < (acts.length : Int)) = true := by simp; omega
  have hinc := inc64 i (by omega)
  have hil : (i : Int) < (acts.length : Int) := by omega
  clear hv
  obtain ⟨x, hx, hx64⟩ : ∃ x, x = getC es ls at' ∧ x.length = 64 := ⟨_, rfl, getC_len h64 (fun w hx => (hw w hx).2) at'⟩
  obtain ⟨fz', hfz⟩ : ∃ f, f = (if inR at' es.length then true else fz) := ⟨_, rfl⟩
  obtain ⟨e, he⟩ : ∃ e : Int, e = (if inR at' es.length then 0 else 71) := ⟨_, rfl⟩
  have t1 : ∀ m, 100 ≤ m → call G m 20 [p0, .int .i64 at'] [plateO es fz ls off left] = some (.tup [cellV x, .int .i64 e], [plateO es fz' ls off left]) := fun m hm => by
    rw [hx, hfz, he]; exact hP.get at' es fz ls off left h64 (fun w hx => (hw w hx).2) (by omega) m (by omega)
  have t2 : ∀ m, 100 ≤ m → call G m 28 [p0, .int .i64 at'] [refP es ls off left lj] = some (.tup [cellV x, .int .i64 e], [refP es ls off left lj]) := fun m hm => by
    rw [hx, he, getC_fold es ls (fun w hx => (hw w hx).1)]; exact hR.get at' es ls off left lj h64 (fun w hx => (hw w hx).2) m (by omega)
  have hok : Ok6 n0 ⟨i + 1, es, fz', ls, off, left, lj⟩ := ⟨hlen, h64, hw, by simp only; omega, hl⟩
  have t3 : ∀ m, 100 ≤ m → call G m 19 [p0] [plateO es fz' ls off left] = some (.int .i64 ls.length, [plateO es fz' ls off left]) := fun m hm => hP.loose es fz' ls off left m (by omega)
  have t4 : ∀ m, 100 ≤ m → call G m 23 [p0] [plateO es fz' ls off left] = some (.bool off, [plateO es fz' ls off left]) := fun m hm => hP.off es fz' ls off left m (by omega)
  have t5 : ∀ m, 100 ≤ m → call G m 24 [p0] [plateO es fz' ls off left] = some (.int .i64 es.length, [plateO es fz' ls off left]) := fun m hm => hP.len es fz' ls off left m (by omega)
  have hfl := foldl_wr_len es ls
  have hj := hJ _ rfl hok
  clear hok hJ hw hsm
  clear hfz
  cases fz <;> cases fz'
  all_goals
    unfold S6 body6
    (refine Vq.runO (And.intro hlt (And.intro hinc (And.intro hg (And.intro hfl (And.intro hx64 (And.intro (take_by hx64) (And.intro (drop_by hx64) (And.intro (take_byA hx64) (And.intro (drop_byA hx64) trivial))))))))) (And.intro (Vq.apart_by) (And.intro (Vq.regens_gA hx64) (And.intro (Vq.hasX_tA) (And.intro (Vq.hasX_tI) (And.intro (Vq.hasX_t0) (And.intro eqV_cells (And.intro (eqvs_by _ _ hx64) trivial))))))) ?_)
  all_goals
    refine Qr_n _ ?_ hj
    show _ = _
    kernel_rfl
theorem none6 (hP : Plate G) (hR : RefP G) (h17 : ∀ (v n : Nat), 70 ≤ n → call G n 17 [.int .u8 (v : Int)] [] = some (cellV (cellOf v), [])) (acts : List (Int × Int × Int × Nat)) (hv : ∀ a ∈ acts, a.2.2.2 < 256) (n0 : Nat) (hn0 : n0 ≤ 4096) (a : PS) (ha : Ok6 n0 a) (hla : acts.length ≤ 200) (hi : a.i < acts.length) (hk : (acts[a.i].1 == 0) = false) (hk1 : (acts[a.i].1 == 1) = false) (hk2 : (acts[a.i].1 == 2) = false) (hk3 : (acts[a.i].1 == 3) = false) (hk4 : (acts[a.i].1 == 4) = false) (m : Nat) (hm : 400 ≤ m) (Q : Out → St → Prop) (J : PS → Prop) (hJ : ∀ b, b.i = a.i + 1 → Ok6 n0 b → J b) :
    W (call G m) (itersOf G) (exec G m) 0 body6 (S6 acts a) (Qrnd (some [1, 5, 6, 31, 32, 33]) 0 (S6 acts) J Q) := by
  obtain ⟨i, es, fz, ls, off, left, lj⟩ := a
  obtain ⟨hlen, h64, hw, hsm, hl⟩ := ha
  simp only at hlen h64 hw hsm hl hi hJ
  obtain ⟨⟨kd, at', torn, v⟩, hact⟩ : ∃ x, x = acts[i] := ⟨_, rfl⟩
  have hv' : v < 256 := by have := hv acts[i] (List.getElem_mem _); rw [← hact] at this; exact this
  simp only [← hact] at hk hk1 hk2 hk3 hk4
  have hg : (acts.map actV)[i]? = some (actV (kd, at', torn, v)) := by rw [hact]; simp [hi]
  have hlt : decide ((i : Int) < (acts.length : Int)) = true := by simp; omega
  have hinc := inc64 i (by omega)
  have hil : (i : Int) < (acts.length : Int) := by omega
  clear hv
  have hok : Ok6 n0 ⟨i + 1, es, fz, ls, off, left, lj⟩ := ⟨hlen, h64, hw, by simp only; omega, hl⟩
  have t3 : ∀ m, 100 ≤ m → call G m 19 [p0] [plateO es fz ls off left] = some (.int .i64 ls.length, [plateO es fz ls off left]) := fun m hm => hP.loose es fz ls off left m (by omega)
  have t4 : ∀ m, 100 ≤ m → call G m 23 [p0] [plateO es fz ls off left] = some (.bool off, [plateO es fz ls off left]) := fun m hm => hP.off es fz ls off left m (by omega)
  have t5 : ∀ m, 100 ≤ m → call G m 24 [p0] [plateO es fz ls off left] = some (.int .i64 es.length, [plateO es fz ls off left]) := fun m hm => hP.len es fz ls off left m (by omega)
  have hfl := foldl_wr_len es ls
  have hj := hJ _ rfl hok
  clear hok hJ hw hsm
  cases fz
  all_goals
    unfold S6 body6
    (refine Vq.runO (And.intro hlt (And.intro hinc (And.intro hg (And.intro hfl (And.intro hk (And.intro hk1 (And.intro hk2 (And.intro hk3 (And.intro hk4 trivial))))))))) (And.intro (Vq.apart_by) trivial) ?_)
  all_goals
    refine Qr_n _ ?_ hj
    show _ = _
    kernel_rfl
end
end L1
end Go.Vq

namespace Go.Vq
namespace L1
open Go
set_option maxRecDepth 1000000
set_option maxHeartbeats 8000000
section
variable (G : VProg)
theorem fail6 (hP : Plate G) (hR : RefP G) (h17 : ∀ (v n : Nat), 70 ≤ n → call G n 17 [.int .u8 (v : Int)] [] = some (cellV (cellOf v), [])) (acts : List (Int × Int × Int × Nat)) (hv : ∀ a ∈ acts, a.2.2.2 < 256) (n0 : Nat) (hn0 : n0 ≤ 4096) (a : PS) (ha : Ok6 n0 a) (hla : acts.length ≤ 200) (hi : a.i < acts.length) (hk : acts[a.i].1 = 4) (m : Nat) (hm : 400 ≤ m) (Q : Out → St → Prop) (J : PS → Prop) (hJ : ∀ b, b.i = a.i + 1 → Ok6 n0 b → J b) :
    W (call G m) (itersOf G) (exec G m) 0 body6 (S6 acts a) (Qrnd (some [1, 5, 6, 31, 32, 33]) 0 (S6 acts) J Q) := by
  obtain ⟨i, es, fz, ls, off, left, lj⟩ := a
  obtain ⟨hlen, h64, hw, hsm, hl⟩ := ha
  simp only at hlen h64 hw hsm hl hi hJ
  obtain ⟨⟨kd, at', torn, v⟩, hact⟩ : ∃ x, x = acts[i] := ⟨_, rfl⟩
  have hv' : v < 256 := by have := hv acts[i] (List.getElem_mem _); rw [← hact] at this; exact this
  simp only [← hact] at hk
  subst hk
  have hg : (acts.map actV)[i]? = some (actV (4, at', torn, v)) := by rw [hact]; simp [hi]
  have hlt : decide ((i : Int) < (acts.length : Int)) = true := by simp; omega
  have hinc := inc64 i (by omega)
  have hil : (i : Int) < (acts.length : Int) := by omega
  clear hv
  obtain ⟨vx, hvx, hvl⟩ : ∃ vx : Nat, IntKind.u8.wrap (BitVec.ofInt IntKind.u8.bits (if IntKind.u8.signed = true then -1 else IntKind.u8.max) ^^^ BitVec.ofInt IntKind.u8.bits (v : Int)).toNat = (vx : Int) ∧ vx < 256 := by
    refine ⟨(IntKind.u8.wrap (BitVec.ofInt IntKind.u8.bits (if IntKind.u8.signed = true then -1 else IntKind.u8.max) ^^^ BitVec.ofInt IntKind.u8.bits (v : Int)).toNat).toNat, ?_, ?_⟩ <;> rw [S4w8] <;> omega
  have hkb : ∀ x ∈ [v, vx], x < 256 := by intro x hx; simp at hx; omega
  obtain ⟨es', hes⟩ : ∃ e, e = flA [v, vx] torn at' es ls ls.length := ⟨_, rfl⟩
  obtain ⟨lj', hlj⟩ : ∃ l, l = (if 0 ≤ left then left else lj) := ⟨_, rfl⟩
  have t1 : ∀ m, 300 ≤ m → call G m 21 [p0, .isl 0 1 [.int .u8 (v : Int), .int .u8 (vx : Int)], .int .i64 torn, .int .i64 at'] [plateO es fz ls off left] = some (.tup [], [plateO es' false [] false (-1)]) := fun m hm => by
    rw [hes]; exact hP.fail [v, vx] torn at' es fz ls off left h64 hw (by omega) m (by omega)
  have t2 : ∀ m, 300 ≤ m → call G m 30 [p0, .isl 0 1 [.int .u8 (v : Int), .int .u8 (vx : Int)], .int .i64 torn, .int .i64 at'] [refP es ls off left lj] = some (.tup [], [refP es' [] false (-1) lj']) := fun m hm => by
    rw [hes, hlj]; exact hR.fail [v, vx] hkb torn at' es ls off left lj h64 hw (by omega) (by omega) m (by omega)
  have hok : Ok6 n0 ⟨i + 1, es', false, [], false, -1, lj'⟩ := ⟨by rw [hes]; simp only [flA_len]; exact hlen, by rw [hes]; exact flA_64 h64 hw _, by simp, by simp, ⟨by simp, by simp⟩⟩
  have t3 : ∀ m, 100 ≤ m → call G m 19 [p0] [plateO es' false [] false (-1)] = some (.int .i64 ((0 : Nat) : Int), [plateO es' false [] false (-1)]) := fun m hm => hP.loose es' false [] false (-1) m (by omega)
  have t4 : ∀ m, 100 ≤ m → call G m 23 [p0] [plateO es' false [] false (-1)] = some (.bool false, [plateO es' false [] false (-1)]) := fun m hm => hP.off es' false [] false (-1) m (by omega)
  have t5 : ∀ m, 100 ≤ m → call G m 24 [p0] [plateO es' false [] false (-1)] = some (.int .i64 es'.length, [plateO es' false [] false (-1)]) := fun m hm => hP.len es' false [] false (-1) m (by omega)
  have hfl := foldl_wr_len es' []
  have hj := hJ _ rfl hok
  clear hok hJ hw hsm
  cases fz
  all_goals
    unfold S6 body6
    (refine Vq.runO (And.intro hlt (And.intro hinc (And.intro hg (And.intro hfl (And.intro hvx trivial))))) (And.intro (Vq.apart_by) trivial) ?_)
  all_goals
    refine Qr_n _ ?_ hj
    show _ = _
    kernel_rfl
end
end L1
end Go.Vq

namespace Go.Vq
namespace L1
open Go
set_option maxRecDepth 1000000
set_option maxHeartbeats 8000000
def body6b : VCode := (.seq (.region [⟨some 157, .bin (.lss) (.tmp 156) (.tmp 155), none, 0⟩] false) (.seq (.cond (.tmp 157) (.skip) (.exit 3)) (.seq (.block 4 none (.seq (.region [⟨some 158, .move (.tmp 156), none, 0⟩, ⟨some 15, .assign (.tmp 158), none, 1⟩] false) (.seq (.region [⟨some 160, .move (.tmp 5), none, 0⟩, ⟨some 161, .move (.tmp 15), none, 0⟩, ⟨some 162, .call false 20 11 [(.tmp 160), (.tmp 161)], none, 3⟩, ⟨some 159, .move (.tmp 162), none, 7⟩, ⟨some 163, .extract (.tmp 159) 0, none, 15⟩, ⟨some 164, .extract (.tmp 159) 1, none, 15⟩, ⟨some 16, .alloc 11 (Z8 64), none, 0⟩, ⟨none, .store 64 (.tmp 16) (.tmp 163), none, 95⟩, ⟨some 17, .assign (.tmp 164), none, 255⟩] false) (.seq (.region [⟨some 165, .move (.tmp 17), none, 0⟩, ⟨some 166, .eq true (.num) (.tmp 165) (.val (.int .i64 0)), none, 1⟩, ⟨some 167, .move (.tmp 166), none, 3⟩, ⟨some 168, .load true 64 (.tmp 16), some (167, false), 7⟩, ⟨some 169, .move (.tmp 6), some (167, false), 7⟩, ⟨some 170, .nilCheck (.tmp 169), some (167, false), 23⟩, ⟨some 171, .fieldAddr 1 (.tmp 170), some (167, false), 55⟩, ⟨some 172, .load false 1 (.tmp 171), some (167, false), 119⟩, ⟨some 173, .move (.tmp 15), some (167, false), 7⟩, ⟨some 174, .indexAddr none 64 (.tmp 172) (.tmp 173), some (167, false), 503⟩, ⟨some 175, .load true 64 (.tmp 174), some (167, false), 1015⟩, ⟨some 176, .eq true (.cells (List.replicate 64 (.int .u8))) (.tmp 168) (.tmp 175), some (167, false), 2047⟩, ⟨some 177, .pick (.tmp 167) (.val (.bool true)) (.tmp 176), none, 4095⟩] true) (.cond (.tmp 177) (.seq (.region [⟨some 4, .assign (.val (.bool false)), none, 0⟩] false) (.ret)) (.skip)))))) (.region [⟨some 178, .bin (.add) (.tmp 156) (.val (.int .i64 1)), none, 0⟩, ⟨some 156, .move (.tmp 178), none, 1⟩] false))))
def T6 (es : List (List Nat)) (fz : Bool) (ls : List (Nat × List Nat)) (off : Bool) (left lj : Int) (i : Nat) : St :=
  ⟨(.gone 0 :: .gone 0 :: .gone 0 :: .gone 0 :: .gone 0 :: p0 :: .ptr (.obj 4 0) :: .gone 0 :: .gone 0 :: .gone 0 :: .gone 0 :: .gone 0 :: .gone 0 :: .gone 0 :: .gone 0 :: .gone 0 :: .gone 0 :: .gone 0 :: .gone 0 :: .gone 0 :: .gone 0 :: .gone 0 :: .gone 0 :: .gone 0 :: .gone 0 :: .gone 0 :: .gone 0 :: .gone 0 :: .gone 0 :: .gone 0 :: .gone 0 :: .gone 0 :: .gone 0 :: .gone 0 :: .gone 0 :: .gone 0 :: .gone 0 :: .gone 0 :: .gone 0 :: .gone 0 :: .gone 0 :: .gone 0 :: .gone 0 :: .gone 0 :: .gone 0 :: .gone 0 :: .gone 0 :: .gone 0 :: .gone 0 :: .gone 0 :: .gone 0 :: .gone 0 :: .gone 0 :: .gone 0 :: .gone 0 :: .gone 0 :: .gone 0 :: .gone 0 :: .gone 0 :: .gone 0 :: .gone 0 :: .gone 0 :: .gone 0 :: .gone 0 :: .gone 0 :: .gone 0 :: .gone 0 :: .gone 0 :: .gone 0 :: .gone 0 :: .gone 0 :: .gone 0 :: .gone 0 :: .gone 0 :: .gone 0 :: .gone 0 :: .gone 0 :: .gone 0 :: .gone 0 :: .gone 0 :: .gone 0 :: .gone 0 :: .gone 0 :: .gone 0 :: .gone 0 :: .gone 0 :: .gone 0 :: .gone 0 :: .gone 0 :: .gone 0 :: .gone 0 :: .gone 0 :: .gone 0 :: .gone 0 :: .gone 0 :: .gone 0 :: .gone 0 :: .gone 0 :: .gone 0 :: .gone 0 :: .gone 0 :: .gone 0 :: .gone 0 :: .gone 0 :: .gone 0 :: .gone 0 :: .gone 0 :: .gone 0 :: .gone 0 :: .gone 0 :: .gone 0 :: .gone 0 :: .gone 0 :: .gone 0 :: .gone 0 :: .gone 0 :: .gone 0 :: .gone 0 :: .gone 0 :: .gone 0 :: .gone 0 :: .gone 0 :: .gone 0 :: .gone 0 :: .gone 0 :: .gone 0 :: .gone 0 :: .gone 0 :: .gone 0 :: .gone 0 :: .gone 0 :: .gone 0 :: .gone 0 :: .gone 0 :: .gone 0 :: .gone 0 :: .gone 0 :: .gone 0 :: .gone 0 :: .gone 0 :: .gone 0 :: .gone 0 :: .gone 0 :: .gone 0 :: .gone 0 :: .gone 0 :: .gone 0 :: .gone 0 :: .gone 0 :: .gone 0 :: .gone 0 :: .gone 0 :: .gone 0 :: .gone 0 :: .gone 0 :: .int .i64 es.length :: .int .i64 i :: .gone 0 :: .gone 0 :: .gone 0 :: .gone 0 :: .gone 0 :: .gone 0 :: .gone 0 :: .gone 0 :: .gone 0 :: .gone 0 :: .gone 0 :: .gone 0 :: .gone 0 :: .gone 0 :: .gone 0 :: .gone 0 :: .gone 0 :: .gone 0 :: .gone 0 :: .gone 0 :: .gone 0 :: .gone 0 :: []), [some (plateO es fz ls off left), none, none, none, some (refP es ls off left lj), none, none, none, none, none, none, none]⟩
section
variable (G : VProg)
theorem last6 (hP : Plate G) (es : List (List Nat)) (fz : Bool) (ls : List (Nat × List Nat)) (off : Bool) (left lj : Int) (h64 : ∀ c ∈ es, c.length = 64) (hw : ∀ w ∈ ls, w.1 < es.length ∧ w.2.length = 64) (hsm : ls.length ≤ 200) (hn0 : es.length ≤ 4096) (i : Nat) (hi : i < es.length) (m : Nat) (hm : 400 ≤ m) (Q : Out → St → Prop) (J : Bool × Nat → Prop) (hJ : J (true, i + 1)) :
    W (call G m) (itersOf G) (exec G m) 0 body6b (T6 es fz ls off left lj i) (Qrnd (some [5, 6, 155, 156]) 0 (fun b : Bool × Nat => T6 es b.1 ls off left lj b.2) J Q) := by
  have hlt : decide ((i : Int) < (es.length : Int)) = true := by simp; omega
  have hinc := inc64 i (by omega)
  have hfl := foldl_wr_len es ls
  have hil : (i : Int) < ((ls.foldl wr es).length : Int) := by omega
  obtain ⟨x, hx, hx64⟩ : ∃ x, x = getC es ls i ∧ x.length = 64 := ⟨_, rfl, getC_len h64 (fun w hx => (hw w hx).2) i⟩
  have hin : inR i es.length = true := by simp [inR]; omega
  have t1 : ∀ m, 100 ≤ m → call G m 20 [p0, .int .i64 i] [plateO es fz ls off left] = some (.tup [cellV x, .int .i64 0], [plateO es true ls off left]) := fun m hm => by
    have := hP.get i es fz ls off left h64 (fun w hx => (hw w hx).2) (by omega) m (by omega)
    rw [hin] at this
    rw [hx]; exact this
  have hg : ((ls.foldl wr es).map cellV)[i]? = some (cellV x) := by
    rw [hx, getC_fold es ls (fun w hx => (hw w hx).1), if_pos hin]
    simp [List.getD_eq_getElem?_getD, hfl, hi]
  clear hx hw
  cases fz
  all_goals
    unfold T6 body6b
    (refine Vq.runO (And.intro hlt (And.intro hinc (And.intro hg (And.intro hfl (And.intro hx64 (And.intro (take_by hx64) (And.intro (drop_by hx64) (And.intro (take_byA hx64) (And.intro (drop_byA hx64) trivial))))))))) (And.intro (Vq.apart_by) (And.intro (Vq.regens_gA hx64) (And.intro (Vq.hasX_tA) (And.intro (Vq.hasX_tI) (And.intro (Vq.hasX_t0) (And.intro eqV_cells (And.intro (eqvs_by _ _ hx64) trivial))))))) ?_)
  all_goals
    refine Qr_n (true, i + 1) ?_ hJ
    show _ = _
    kernel_rfl
end
end L1
end Go.Vq

namespace Go.Vq
namespace L1
open Go
set_option maxRecDepth 1000000
set_option maxHeartbeats 8000000
section
variable (G : VProg)
theorem loop6 (hP : Plate G) (hR : RefP G) (h17 : ∀ (v n : Nat), 70 ≤ n → call G n 17 [.int .u8 (v : Int)] [] = some (cellV (cellOf v), [])) (acts : List (Int × Int × Int × Nat)) (hv : ∀ a ∈ acts, a.2.2.2 < 256) (hat : ∀ a ∈ acts, a.2.1 < 9223372036854775808) (n0 : Nat) (hn0 : n0 ≤ 4096) (a0 : PS) (ha0 : Ok6 n0 a0) (hi0 : a0.i = 0) (hla : acts.length ≤ 200) (m : Nat) (hm : 700 ≤ m) (σ : St) (hs : rebase? (some [1, 5, 6, 31, 32, 33]) 0 σ = S6 acts a0) (Q : Out → St → Prop)
    (hq : ∀ a, Ok6 n0 a → a.i = acts.length → Q (.exit 0) ⟨(.gone 0 :: .isl 0 4 (acts.map actV) :: .gone 0 :: .gone 0 :: .gone 0 :: p0 :: .ptr (.obj 4 0) :: .gone 0 :: .gone 0 :: .gone 0 :: .gone 0 :: .gone 0 :: .gone 0 :: .gone 0 :: .gone 0 :: .gone 0 :: .gone 0 :: .gone 0 :: .gone 0 :: .gone 0 :: .gone 0 :: .gone 0 :: .gone 0 :: .gone 0 :: .gone 0 :: .gone 0 :: .gone 0 :: .gone 0 :: .gone 0 :: .gone 0 :: .gone 0 :: .isl 0 4 (acts.map actV) :: .int .i64 acts.length :: .int .i64 acts.length :: .bool false :: .gone 0 :: .gone 0 :: .gone 0 :: .gone 0 :: .gone 0 :: .gone 0 :: .gone 0 :: .gone 0 :: .gone 0 :: .gone 0 :: .gone 0 :: .gone 0 :: .gone 0 :: .gone 0 :: .gone 0 :: .gone 0 :: .gone 0 :: .gone 0 :: .gone 0 :: .gone 0 :: .gone 0 :: .gone 0 :: .gone 0 :: .gone 0 :: .gone 0 :: .gone 0 :: .gone 0 :: .gone 0 :: .gone 0 :: .gone 0 :: .gone 0 :: .gone 0 :: .gone 0 :: .gone 0 :: .gone 0 :: .gone 0 :: .gone 0 :: .gone 0 :: .gone 0 :: .gone 0 :: .gone 0 :: .gone 0 :: .gone 0 :: .gone 0 :: .gone 0 :: .gone 0 :: .gone 0 :: .gone 0 :: .gone 0 :: .gone 0 :: .gone 0 :: .gone 0 :: .gone 0 :: .gone 0 :: .gone 0 :: .gone 0 :: .gone 0 :: .gone 0 :: .gone 0 :: .gone 0 :: .gone 0 :: .gone 0 :: .gone 0 :: .gone 0 :: .gone 0 :: .gone 0 :: .gone 0 :: .gone 0 :: .gone 0 :: .gone 0 :: .gone 0 :: .gone 0 :: .gone 0 :: .gone 0 :: .gone 0 :: .gone 0 :: .gone 0 :: .gone 0 :: .gone 0 :: .gone 0 :: .gone 0 :: .gone 0 :: .gone 0 :: .gone 0 :: .gone 0 :: .gone 0 :: .gone 0 :: .gone 0 :: .gone 0 :: .gone 0 :: .gone 0 :: .gone 0 :: .gone 0 :: .gone 0 :: .gone 0 :: .gone 0 :: .gone 0 :: .gone 0 :: .gone 0 :: .gone 0 :: .gone 0 :: .gone 0 :: .gone 0 :: .gone 0 :: .gone 0 :: .gone 0 :: .gone 0 :: .gone 0 :: .gone 0 :: .gone 0 :: .gone 0 :: .gone 0 :: .gone 0 :: .gone 0 :: .gone 0 :: .gone 0 :: .gone 0 :: .gone 0 :: .gone 0 :: .gone 0 :: .gone 0 :: .gone 0 :: .gone 0 :: .gone 0 :: .gone 0 :: .gone 0 :: .gone 0 :: .gone 0 :: .gone 0 :: .gone 0 :: .gone 0 :: .gone 0 :: .gone 0 :: .gone 0 :: .gone 0 :: .gone 0 :: .gone 0 :: .gone 0 :: .gone 0 :: .gone 0 :: .gone 0 :: .gone 0 :: .gone 0 :: .gone 0 :: []), [some (plateO a.es a.fz a.ls a.off a.left), none, none, none, some (refP a.es a.ls a.off a.left a.lj), none, none, none, none, none, none, none]⟩) :
    W (call G m) (itersOf G) (exec G m) 0 (.loop (some [1, 5, 6, 31, 32, 33]) body6) σ Q := by
  refine W_loop (S6 acts) (fun a => Ok6 n0 a ∧ a.i ≤ acts.length) (fun a => acts.length - a.i) 400 (fun a m hm ha => ?_) acts.length a0 m σ ⟨ha0, by omega⟩ (by omega) (by omega) hs
  obtain ⟨ha, hil⟩ := ha
  by_cases hi : a.i < acts.length
  · have hJ : ∀ b : PS, b.i = a.i + 1 → Ok6 n0 b → (Ok6 n0 b ∧ b.i ≤ acts.length) ∧ acts.length - b.i < acts.length - a.i := fun b hb hok => ⟨⟨hok, by omega⟩, by omega⟩
    by_cases h0 : acts[a.i].1 = 0
    · exact put6 G hP hR h17 acts hv n0 hn0 a ha hla hi h0 m hm Q _ hJ
    by_cases h1 : acts[a.i].1 = 1
    · exact flush6 G hP hR h17 acts hv n0 hn0 a ha hla hi h1 m hm Q _ hJ
    by_cases h2 : acts[a.i].1 = 2
    · exact get6 G hP hR h17 acts hv n0 hn0 a ha hla hi h2 m hm Q _ hJ
    by_cases h3 : acts[a.i].1 = 3
    · exact limit6 G hP hR h17 acts hv n0 hn0 a ha hla hi h3 (hat _ (List.getElem_mem _)) m hm Q _ hJ
    by_cases h4 : acts[a.i].1 = 4
    · exact fail6 G hP hR h17 acts hv n0 hn0 a ha hla hi h4 m hm Q _ hJ
    exact none6 G hP hR h17 acts hv n0 hn0 a ha hla hi (by simpa using h0) (by simpa using h1) (by simpa using h2) (by simpa using h3) (by simpa using h4) m hm Q _ hJ
  · have hie : a.i = acts.length := by omega
    have hlt : decide ((a.i : Int) < (acts.length : Int)) = false := by simp; omega
    have hx := hq a ha hie
    rw [← hie] at hx
    have e : (acts.length : Int) = (a.i : Int) := by omega
    unfold S6 body6
    (repeat' (first | (with_reducible apply Vq.WO_nil) | ((with_reducible apply Vq.WO_cons); (· first | exact rfl); (try simp only [z1, z2, z3, z4, z5, z6, z7, z8, z9, z10, z11, z12, z13, z14, z15, z16, z17, z18, List.length_map, V.withLeaves, V.borrow, zero1, freeze1, borrows, borrow1, V.leaves, V.nextg, Nat.reduceAdd, Nat.reduceSub, layTup, obj1, splice, Bool.false_eq_true, if_true, if_false, Bool.not_true, Bool.not_false, Vq.take_mapl, Int.toNat_natCast, Int.toNat_zero, Nat.add_zero, Nat.sub_zero, Nat.zero_add, Int.reduceToNat, hlt])) | (with_reducible first | apply Vq.W_seq | apply Vq.W_region | apply Vq.Qs_n | apply Vq.W_skip | apply Vq.W_ret | apply Vq.W_exit | apply Vq.W_block | apply Vq.Qs_r | apply Vq.Qs_e | apply Vq.Qb_n0 | apply Vq.Qb_x0 | apply Vq.Qb_r) | ((with_reducible apply Vq.Qb_ne); (· decide)) | ((with_reducible apply Vq.W_condT); (· exact rfl)) | ((with_reducible apply Vq.W_condF); (· exact rfl)) | ((first | ((with_reducible apply Vq.W_condD); (· exact rfl)) | ((with_reducible apply Vq.W_cond); (· exact rfl))); all_goals (intro hq; (try simp only [hq])))))
    refine Qr_x ?_
    rw [e]
    exact hx
theorem loop6b (hP : Plate G) (es : List (List Nat)) (fz : Bool) (ls : List (Nat × List Nat)) (off : Bool) (left lj : Int) (h64 : ∀ c ∈ es, c.length = 64) (hw : ∀ w ∈ ls, w.1 < es.length ∧ w.2.length = 64) (hsm : ls.length ≤ 200) (hn0 : es.length ≤ 4096) (m : Nat) (hm : 5000 ≤ m) (σ : St) (hs : rebase? (some [5, 6, 155, 156]) 0 σ = T6 es fz ls off left lj 0) (Q : Out → St → Prop)
    (hq : ∀ fz, Q (.exit 3) ⟨(.gone 0 :: .gone 0 :: .gone 0 :: .gone 0 :: .gone 0 :: p0 :: .ptr (.obj 4 0) :: .gone 0 :: .gone 0 :: .gone 0 :: .gone 0 :: .gone 0 :: .gone 0 :: .gone 0 :: .gone 0 :: .gone 0 :: .gone 0 :: .gone 0 :: .gone 0 :: .gone 0 :: .gone 0 :: .gone 0 :: .gone 0 :: .gone 0 :: .gone 0 :: .gone 0 :: .gone 0 :: .gone 0 :: .gone 0 :: .gone 0 :: .gone 0 :: .gone 0 :: .gone 0 :: .gone 0 :: .gone 0 :: .gone 0 :: .gone 0 :: .gone 0 :: .gone 0 :: .gone 0 :: .gone 0 :: .gone 0 :: .gone 0 :: .gone 0 :: .gone 0 :: .gone 0 :: .gone 0 :: .gone 0 :: .gone 0 :: .gone 0 :: .gone 0 :: .gone 0 :: .gone 0 :: .gone 0 :: .gone 0 :: .gone 0 :: .gone 0 :: .gone 0 :: .gone 0 :: .gone 0 :: .gone 0 :: .gone 0 :: .gone 0 :: .gone 0 :: .gone 0 :: .gone 0 :: .gone 0 :: .gone 0 :: .gone 0 :: .gone 0 :: .gone 0 :: .gone 0 :: .gone 0 :: .gone 0 :: .gone 0 :: .gone 0 :: .gone 0 :: .gone 0 :: .gone 0 :: .gone 0 :: .gone 0 :: .gone 0 :: .gone 0 :: .gone 0 :: .gone 0 :: .gone 0 :: .gone 0 :: .gone 0 :: .gone 0 :: .gone 0 :: .gone 0 :: .gone 0 :: .gone 0 :: .gone 0 :: .gone 0 :: .gone 0 :: .gone 0 :: .gone 0 :: .gone 0 :: .gone 0 :: .gone 0 :: .gone 0 :: .gone 0 :: .gone 0 :: .gone 0 :: .gone 0 :: .gone 0 :: .gone 0 :: .gone 0 :: .gone 0 :: .gone 0 :: .gone 0 :: .gone 0 :: .gone 0 :: .gone 0 :: .gone 0 :: .gone 0 :: .gone 0 :: .gone 0 :: .gone 0 :: .gone 0 :: .gone 0 :: .gone 0 :: .gone 0 :: .gone 0 :: .gone 0 :: .gone 0 :: .gone 0 :: .gone 0 :: .gone 0 :: .gone 0 :: .gone 0 :: .gone 0 :: .gone 0 :: .gone 0 :: .gone 0 :: .gone 0 :: .gone 0 :: .gone 0 :: .gone 0 :: .gone 0 :: .gone 0 :: .gone 0 :: .gone 0 :: .gone 0 :: .gone 0 :: .gone 0 :: .gone 0 :: .gone 0 :: .gone 0 :: .gone 0 :: .gone 0 :: .gone 0 :: .gone 0 :: .gone 0 :: .int .i64 es.length :: .int .i64 es.length :: .bool false :: .gone 0 :: .gone 0 :: .gone 0 :: .gone 0 :: .gone 0 :: .gone 0 :: .gone 0 :: .gone 0 :: .gone 0 :: .gone 0 :: .gone 0 :: .gone 0 :: .gone 0 :: .gone 0 :: .gone 0 :: .gone 0 :: .gone 0 :: .gone 0 :: .gone 0 :: .gone 0 :: .gone 0 :: []), [some (plateO es fz ls off left), none, none, none, some (refP es ls off left lj), none, none, none, none, none, none, none]⟩) :
    W (call G m) (itersOf G) (exec G m) 0 (.loop (some [5, 6, 155, 156]) body6b) σ Q := by
  refine W_loop (fun b : Bool × Nat => T6 es b.1 ls off left lj b.2) (fun b => b.2 ≤ es.length) (fun b => es.length - b.2) 400 (fun b m hm hb => ?_) es.length (fz, 0) m σ (Nat.zero_le _) (by simp) (by omega) hs
  obtain ⟨fz, i⟩ := b
  simp only at hb ⊢
  by_cases hi : i < es.length
  · exact last6 G hP es fz ls off left lj h64 hw hsm hn0 i hi m hm Q _ ⟨by simp only; omega, by simp only; omega⟩
  · obtain rfl : i = es.length := by omega
    have hlt : decide ((es.length : Int) < (es.length : Int)) = false := by simp
    have hx := hq fz
    clear hq hs
    unfold T6 body6b
    (repeat' (first | (with_reducible apply Vq.WO_nil) | ((with_reducible apply Vq.WO_cons); (· first | exact rfl); (try simp only [z1, z2, z3, z4, z5, z6, z7, z8, z9, z10, z11, z12, z13, z14, z15, z16, z17, z18, List.length_map, V.withLeaves, V.borrow, zero1, freeze1, borrows, borrow1, V.leaves, V.nextg, Nat.reduceAdd, Nat.reduceSub, layTup, obj1, splice, Bool.false_eq_true, if_true, if_false, Bool.not_true, Bool.not_false, Vq.take_mapl, Int.toNat_natCast, Int.toNat_zero, Nat.add_zero, Nat.sub_zero, Nat.zero_add, Int.reduceToNat, hlt])) | (with_reducible first | apply Vq.W_seq | apply Vq.W_region | apply Vq.Qs_n | apply Vq.W_skip | apply Vq.W_ret | apply Vq.W_exit | apply Vq.W_block | apply Vq.Qs_r | apply Vq.Qs_e | apply Vq.Qb_n0 | apply Vq.Qb_x0 | apply Vq.Qb_r) | ((with_reducible apply Vq.Qb_ne); (· decide)) | ((with_reducible apply Vq.W_condT); (· exact rfl)) | ((with_reducible apply Vq.W_condF); (· exact rfl)) | ((first | ((with_reducible apply Vq.W_condD); (· exact rfl)) | ((with_reducible apply Vq.W_cond); (· exact rfl))); all_goals (intro hq; (try simp only [hq])))))
    exact Qr_x hx
theorem law6 (hG6 : G 6 = some (.code v6)) (h14 : ∀ m, 1 ≤ m → call G m 14 [] [] = some (.bool true, [])) (hP : Plate G) (hR : RefP G) (h17 : ∀ (v n : Nat), 70 ≤ n → call G n 17 [.int .u8 (v : Int)] [] = some (cellV (cellOf v), []))
    (cells : Int) (acts : List (Int × Int × Int × Nat)) (hv : ∀ a ∈ acts, a.2.2.2 < 256) (hat : ∀ a ∈ acts, a.2.1 < 9223372036854775808) (n : Nat) (hn : 6000 ≤ n) : call G n 6 [.int .i64 cells, .isl 0 4 (acts.map actV)] [] = some (.bool true, []) := by
  cases hbig : decide (cells > 60)
  · cases hlong : decide ((acts.length : Int) > 200)
    · have hla : acts.length ≤ 200 := by simp at hlong; omega
      obtain ⟨es, hes, he64⟩ : ∃ es, es = List.replicate (max 0 (min cells 4096)).toNat zero64 ∧ ∀ c ∈ es, c.length = 64 := ⟨_, rfl, by intro c hc; rw [List.eq_of_mem_replicate hc]; rfl⟩
      have hel : es.length ≤ 4096 := by rw [hes]; simp; omega
      have t0 : ∀ m, 100 ≤ m → call G m 15 [.int .i64 cells] [] = some (p0, [plateO es false [] false (-1)]) := fun m hm => by rw [hes]; exact hP.new cells m (by omega)
      have t1 : ∀ m, 100 ≤ m → call G m 25 [.int .i64 cells] [] = some (p0, [refP es [] false (-1) 0]) := fun m hm => by rw [hes]; exact hR.new cells m (by omega)
      have hl6 := loop6 G hP hR h17 acts hv hat es.length hel ⟨0, es, false, [], false, -1, 0⟩ ⟨rfl, he64, by simp, by simp, ⟨by simp, by simp⟩⟩ rfl hla
      (refine Vq.call_Wx (fn := v6) (body := b6) hG6 (by omega) ⟨rfl, by decide⟩ rfl (by (try simp only [Vq.start, List.length_cons, List.length_nil, List.map_cons, List.map_nil, List.cons_append, List.nil_append, List.replicate_succ, List.replicate_zero, Nat.reduceAdd, Nat.reduceSub, v6]); exact rfl) (by (try simp only [List.length_cons, List.length_nil, Nat.reduceAdd, Nat.zero_add]); exact rfl) (fun m hm => ?_); unfold b6; (refine Vq.runO (And.intro hbig (And.intro hlong trivial)) trivial ?_))
      refine hl6 m (by omega) _ (by kernel_rfl) _ fun a ha hie => ?_
      obtain ⟨i, es', fz, ls, off, left, lj⟩ := a
      obtain ⟨hlen, h64, hw, hsm, hl⟩ := ha
      simp only at hlen h64 hw hsm hl hie
      have hfl := foldl_wr_len es' ls
      have hlb := loop6b G hP es' fz ls off left lj h64 hw (by omega) (by omega) m (by omega)
      cases fz
      · refine Qb_x (σ1 := ⟨(.gone 0 :: .gone 0 :: .gone 0 :: .gone 0 :: .gone 0 :: p0 :: .ptr (.obj 4 0) :: .gone 0 :: .gone 0 :: .gone 0 :: .gone 0 :: .gone 0 :: .gone 0 :: .gone 0 :: .gone 0 :: .gone 0 :: .gone 0 :: .gone 0 :: .gone 0 :: .gone 0 :: .gone 0 :: .gone 0 :: .gone 0 :: .gone 0 :: .gone 0 :: .gone 0 :: .gone 0 :: .gone 0 :: .gone 0 :: .gone 0 :: .gone 0 :: .gone 0 :: .gone 0 :: .gone 0 :: .gone 0 :: .gone 0 :: .gone 0 :: .gone 0 :: .gone 0 :: .gone 0 :: .gone 0 :: .gone 0 :: .gone 0 :: .gone 0 :: .gone 0 :: .gone 0 :: .gone 0 :: .gone 0 :: .gone 0 :: .gone 0 :: .gone 0 :: .gone 0 :: .gone 0 :: .gone 0 :: .gone 0 :: .gone 0 :: .gone 0 :: .gone 0 :: .gone 0 :: .gone 0 :: .gone 0 :: .gone 0 :: .gone 0 :: .gone 0 :: .gone 0 :: .gone 0 :: .gone 0 :: .gone 0 :: .gone 0 :: .gone 0 :: .gone 0 :: .gone 0 :: .gone 0 :: .gone 0 :: .gone 0 :: .gone 0 :: .gone 0 :: .gone 0 :: .gone 0 :: .gone 0 :: .gone 0 :: .gone 0 :: .gone 0 :: .gone 0 :: .gone 0 :: .gone 0 :: .gone 0 :: .gone 0 :: .gone 0 :: .gone 0 :: .gone 0 :: .gone 0 :: .gone 0 :: .gone 0 :: .gone 0 :: .gone 0 :: .gone 0 :: .gone 0 :: .gone 0 :: .gone 0 :: .gone 0 :: .gone 0 :: .gone 0 :: .gone 0 :: .gone 0 :: .gone 0 :: .gone 0 :: .gone 0 :: .gone 0 :: .gone 0 :: .gone 0 :: .gone 0 :: .gone 0 :: .gone 0 :: .gone 0 :: .gone 0 :: .gone 0 :: .gone 0 :: .gone 0 :: .gone 0 :: .gone 0 :: .gone 0 :: .gone 0 :: .gone 0 :: .gone 0 :: .gone 0 :: .gone 0 :: .gone 0 :: .gone 0 :: .gone 0 :: .gone 0 :: .gone 0 :: .gone 0 :: .gone 0 :: .gone 0 :: .gone 0 :: .gone 0 :: .gone 0 :: .gone 0 :: .gone 0 :: .gone 0 :: .gone 0 :: .gone 0 :: .gone 0 :: .gone 0 :: .gone 0 :: .gone 0 :: .gone 0 :: .gone 0 :: .gone 0 :: .gone 0 :: .gone 0 :: .gone 0 :: .gone 0 :: .gone 0 :: .gone 0 :: .gone 0 :: .gone 0 :: .gone 0 :: .gone 0 :: .gone 0 :: .gone 0 :: .gone 0 :: .gone 0 :: .gone 0 :: .gone 0 :: .gone 0 :: .gone 0 :: .gone 0 :: .gone 0 :: .gone 0 :: .gone 0 :: .gone 0 :: .gone 0 :: .gone 0 :: .gone 0 :: .gone 0 :: .gone 0 :: .gone 0 :: []), [some (plateO es' false ls off left), none, none, none, some (refP es' ls off left lj), none, none, none, none, none, none, none]⟩) (by kernel_rfl) ?_
        (repeat' (first | (with_reducible apply Vq.WO_nil) | ((with_reducible apply Vq.WO_cons); (· first | exact rfl); (try simp only [z1, z2, z3, z4, z5, z6, z7, z8, z9, z10, z11, z12, z13, z14, z15, z16, z17, z18, List.length_map, V.withLeaves, V.borrow, zero1, freeze1, borrows, borrow1, V.leaves, V.nextg, Nat.reduceAdd, Nat.reduceSub, layTup, obj1, splice, Bool.false_eq_true, if_true, if_false, Bool.not_true, Bool.not_false, Vq.take_mapl, Int.toNat_natCast, Int.toNat_zero, Nat.add_zero, Nat.sub_zero, Nat.zero_add, Int.reduceToNat, hfl])) | (with_reducible first | apply Vq.W_seq | apply Vq.W_region | apply Vq.Qs_n | apply Vq.W_skip | apply Vq.W_ret | apply Vq.W_exit | apply Vq.W_block | apply Vq.Qs_r | apply Vq.Qs_e | apply Vq.Qb_n0 | apply Vq.Qb_x0 | apply Vq.Qb_r) | ((with_reducible apply Vq.Qb_ne); (· decide)) | ((with_reducible apply Vq.W_condT); (· exact rfl)) | ((with_reducible apply Vq.W_condF); (· exact rfl)) | ((first | ((with_reducible apply Vq.W_condD); (· exact rfl)) | ((with_reducible apply Vq.W_cond); (· exact rfl))); all_goals (intro hq; (try simp only [hq])))))
        refine hlb _ (by kernel_rfl) _ fun fz' => ?_
        refine Qb_x (σ1 := ⟨(.gone 0 :: .gone 0 :: .gone 0 :: .gone 0 :: .gone 0 :: .gone 0 :: .gone 0 :: .gone 0 :: .gone 0 :: .gone 0 :: .gone 0 :: .gone 0 :: .gone 0 :: .gone 0 :: .gone 0 :: .gone 0 :: .gone 0 :: .gone 0 :: .gone 0 :: .gone 0 :: .gone 0 :: .gone 0 :: .gone 0 :: .gone 0 :: .gone 0 :: .gone 0 :: .gone 0 :: .gone 0 :: .gone 0 :: .gone 0 :: .gone 0 :: .gone 0 :: .gone 0 :: .gone 0 :: .gone 0 :: .gone 0 :: .gone 0 :: .gone 0 :: .gone 0 :: .gone 0 :: .gone 0 :: .gone 0 :: .gone 0 :: .gone 0 :: .gone 0 :: .gone 0 :: .gone 0 :: .gone 0 :: .gone 0 :: .gone 0 :: .gone 0 :: .gone 0 :: .gone 0 :: .gone 0 :: .gone 0 :: .gone 0 :: .gone 0 :: .gone 0 :: .gone 0 :: .gone 0 :: .gone 0 :: .gone 0 :: .gone 0 :: .gone 0 :: .gone 0 :: .gone 0 :: .gone 0 :: .gone 0 :: .gone 0 :: .gone 0 :: .gone 0 :: .gone 0 :: .gone 0 :: .gone 0 :: .gone 0 :: .gone 0 :: .gone 0 :: .gone 0 :: .gone 0 :: .gone 0 :: .gone 0 :: .gone 0 :: .gone 0 :: .gone 0 :: .gone 0 :: .gone 0 :: .gone 0 :: .gone 0 :: .gone 0 :: .gone 0 :: .gone 0 :: .gone 0 :: .gone 0 :: .gone 0 :: .gone 0 :: .gone 0 :: .gone 0 :: .gone 0 :: .gone 0 :: .gone 0 :: .gone 0 :: .gone 0 :: .gone 0 :: .gone 0 :: .gone 0 :: .gone 0 :: .gone 0 :: .gone 0 :: .gone 0 :: .gone 0 :: .gone 0 :: .gone 0 :: .gone 0 :: .gone 0 :: .gone 0 :: .gone 0 :: .gone 0 :: .gone 0 :: .gone 0 :: .gone 0 :: .gone 0 :: .gone 0 :: .gone 0 :: .gone 0 :: .gone 0 :: .gone 0 :: .gone 0 :: .gone 0 :: .gone 0 :: .gone 0 :: .gone 0 :: .gone 0 :: .gone 0 :: .gone 0 :: .gone 0 :: .gone 0 :: .gone 0 :: .gone 0 :: .gone 0 :: .gone 0 :: .gone 0 :: .gone 0 :: .gone 0 :: .gone 0 :: .gone 0 :: .gone 0 :: .gone 0 :: .gone 0 :: .gone 0 :: .gone 0 :: .gone 0 :: .gone 0 :: .gone 0 :: .gone 0 :: .gone 0 :: .gone 0 :: .gone 0 :: .gone 0 :: .gone 0 :: .gone 0 :: .gone 0 :: .gone 0 :: .gone 0 :: .gone 0 :: .gone 0 :: .gone 0 :: .gone 0 :: .gone 0 :: .gone 0 :: .gone 0 :: .gone 0 :: .gone 0 :: .gone 0 :: .gone 0 :: .gone 0 :: .gone 0 :: .gone 0 :: .gone 0 :: .gone 0 :: []), [none, none, none, none, none, none, none, none, none, none, none, none]⟩) (by kernel_rfl) ?_
        (repeat' (first | (with_reducible apply Vq.WO_nil) | ((with_reducible apply Vq.WO_cons); (· first | exact rfl); (try simp only [z1, z2, z3, z4, z5, z6, z7, z8, z9, z10, z11, z12, z13, z14, z15, z16, z17, z18, List.length_map, V.withLeaves, V.borrow, zero1, freeze1, borrows, borrow1, V.leaves, V.nextg, Nat.reduceAdd, Nat.reduceSub, layTup, obj1, splice, Bool.false_eq_true, if_true, if_false, Bool.not_true, Bool.not_false, Vq.take_mapl, Int.toNat_natCast, Int.toNat_zero, Nat.add_zero, Nat.sub_zero, Nat.zero_add, Int.reduceToNat])) | (with_reducible first | apply Vq.W_seq | apply Vq.W_region | apply Vq.Qs_n | apply Vq.W_skip | apply Vq.W_ret | apply Vq.W_exit | apply Vq.W_block | apply Vq.Qs_r | apply Vq.Qs_e | apply Vq.Qb_n0 | apply Vq.Qb_x0 | apply Vq.Qb_r) | ((with_reducible apply Vq.Qb_ne); (· decide)) | ((with_reducible apply Vq.W_condT); (· exact rfl)) | ((with_reducible apply Vq.W_condF); (· exact rfl)) | ((first | ((with_reducible apply Vq.W_condD); (· exact rfl)) | ((with_reducible apply Vq.W_cond); (· exact rfl))); all_goals (intro hq; (try simp only [hq])))))
        first | (refine Vq.Qe_r ?_; first | kernel_rfl | exact rfl) | (refine Vq.Qe_n ?_; first | kernel_rfl | exact rfl)
      · refine Qb_x (σ1 := ⟨(.gone 0 :: .gone 0 :: .gone 0 :: .gone 0 :: .gone 0 :: p0 :: .ptr (.obj 4 0) :: .gone 0 :: .gone 0 :: .gone 0 :: .gone 0 :: .gone 0 :: .gone 0 :: .gone 0 :: .gone 0 :: .gone 0 :: .gone 0 :: .gone 0 :: .gone 0 :: .gone 0 :: .gone 0 :: .gone 0 :: .gone 0 :: .gone 0 :: .gone 0 :: .gone 0 :: .gone 0 :: .gone 0 :: .gone 0 :: .gone 0 :: .gone 0 :: .gone 0 :: .gone 0 :: .gone 0 :: .gone 0 :: .gone 0 :: .gone 0 :: .gone 0 :: .gone 0 :: .gone 0 :: .gone 0 :: .gone 0 :: .gone 0 :: .gone 0 :: .gone 0 :: .gone 0 :: .gone 0 :: .gone 0 :: .gone 0 :: .gone 0 :: .gone 0 :: .gone 0 :: .gone 0 :: .gone 0 :: .gone 0 :: .gone 0 :: .gone 0 :: .gone 0 :: .gone 0 :: .gone 0 :: .gone 0 :: .gone 0 :: .gone 0 :: .gone 0 :: .gone 0 :: .gone 0 :: .gone 0 :: .gone 0 :: .gone 0 :: .gone 0 :: .gone 0 :: .gone 0 :: .gone 0 :: .gone 0 :: .gone 0 :: .gone 0 :: .gone 0 :: .gone 0 :: .gone 0 :: .gone 0 :: .gone 0 :: .gone 0 :: .gone 0 :: .gone 0 :: .gone 0 :: .gone 0 :: .gone 0 :: .gone 0 :: .gone 0 :: .gone 0 :: .gone 0 :: .gone 0 :: .gone 0 :: .gone 0 :: .gone 0 :: .gone 0 :: .gone 0 :: .gone 0 :: .gone 0 :: .gone 0 :: .gone 0 :: .gone 0 :: .gone 0 :: .gone 0 :: .gone 0 :: .gone 0 :: .gone 0 :: .gone 0 :: .gone 0 :: .gone 0 :: .gone 0 :: .gone 0 :: .gone 0 :: .gone 0 :: .gone 0 :: .gone 0 :: .gone 0 :: .gone 0 :: .gone 0 :: .gone 0 :: .gone 0 :: .gone 0 :: .gone 0 :: .gone 0 :: .gone 0 :: .gone 0 :: .gone 0 :: .gone 0 :: .gone 0 :: .gone 0 :: .gone 0 :: .gone 0 :: .gone 0 :: .gone 0 :: .gone 0 :: .gone 0 :: .gone 0 :: .gone 0 :: .gone 0 :: .gone 0 :: .gone 0 :: .gone 0 :: .gone 0 :: .gone 0 :: .gone 0 :: .gone 0 :: .gone 0 :: .gone 0 :: .gone 0 :: .gone 0 :: .gone 0 :: .gone 0 :: .gone 0 :: .gone 0 :: .gone 0 :: .gone 0 :: .gone 0 :: .gone 0 :: .gone 0 :: .gone 0 :: .gone 0 :: .gone 0 :: .gone 0 :: .gone 0 :: .gone 0 :: .gone 0 :: .gone 0 :: .gone 0 :: .gone 0 :: .gone 0 :: .gone 0 :: .gone 0 :: .gone 0 :: .gone 0 :: .gone 0 :: .gone 0 :: .gone 0 :: .gone 0 :: .gone 0 :: []), [some (plateO es' true ls off left), none, none, none, some (refP es' ls off left lj), none, none, none, none, none, none, none]⟩) (by kernel_rfl) ?_
        (repeat' (first | (with_reducible apply Vq.WO_nil) | ((with_reducible apply Vq.WO_cons); (· first | exact rfl); (try simp only [z1, z2, z3, z4, z5, z6, z7, z8, z9, z10, z11, z12, z13, z14, z15, z16, z17, z18, List.length_map, V.withLeaves, V.borrow, zero1, freeze1, borrows, borrow1, V.leaves, V.nextg, Nat.reduceAdd, Nat.reduceSub, layTup, obj1, splice, Bool.false_eq_true, if_true, if_false, Bool.not_true, Bool.not_false, Vq.take_mapl, Int.toNat_natCast, Int.toNat_zero, Nat.add_zero, Nat.sub_zero, Nat.zero_add, Int.reduceToNat, hfl])) | (with_reducible first | apply Vq.W_seq | apply Vq.W_region | apply Vq.Qs_n | apply Vq.W_skip | apply Vq.W_ret | apply Vq.W_exit | apply Vq.W_block | apply Vq.Qs_r | apply Vq.Qs_e | apply Vq.Qb_n0 | apply Vq.Qb_x0 | apply Vq.Qb_r) | ((with_reducible apply Vq.Qb_ne); (· decide)) | ((with_reducible apply Vq.W_condT); (· exact rfl)) | ((with_reducible apply Vq.W_condF); (· exact rfl)) | ((first | ((with_reducible apply Vq.W_condD); (· exact rfl)) | ((with_reducible apply Vq.W_cond); (· exact rfl))); all_goals (intro hq; (try simp only [hq])))))
        refine hlb _ (by kernel_rfl) _ fun fz' => ?_
        refine Qb_x (σ1 := ⟨(.gone 0 :: .gone 0 :: .gone 0 :: .gone 0 :: .gone 0 :: .gone 0 :: .gone 0 :: .gone 0 :: .gone 0 :: .gone 0 :: .gone 0 :: .gone 0 :: .gone 0 :: .gone 0 :: .gone 0 :: .gone 0 :: .gone 0 :: .gone 0 :: .gone 0 :: .gone 0 :: .gone 0 :: .gone 0 :: .gone 0 :: .gone 0 :: .gone 0 :: .gone 0 :: .gone 0 :: .gone 0 :: .gone 0 :: .gone 0 :: .gone 0 :: .gone 0 :: .gone 0 :: .gone 0 :: .gone 0 :: .gone 0 :: .gone 0 :: .gone 0 :: .gone 0 :: .gone 0 :: .gone 0 :: .gone 0 :: .gone 0 :: .gone 0 :: .gone 0 :: .gone 0 :: .gone 0 :: .gone 0 :: .gone 0 :: .gone 0 :: .gone 0 :: .gone 0 :: .gone 0 :: .gone 0 :: .gone 0 :: .gone 0 :: .gone 0 :: .gone 0 :: .gone 0 :: .gone 0 :: .gone 0 :: .gone 0 :: .gone 0 :: .gone 0 :: .gone 0 :: .gone 0 :: .gone 0 :: .gone 0 :: .gone 0 :: .gone 0 :: .gone 0 :: .gone 0 :: .gone 0 :: .gone 0 :: .gone 0 :: .gone 0 :: .gone 0 :: .gone 0 :: .gone 0 :: .gone 0 :: .gone 0 :: .gone 0 :: .gone 0 :: .gone 0 :: .gone 0 :: .gone 0 :: .gone 0 :: .gone 0 :: .gone 0 :: .gone 0 :: .gone 0 :: .gone 0 :: .gone 0 :: .gone 0 :: .gone 0 :: .gone 0 :: .gone 0 :: .gone 0 :: .gone 0 :: .gone 0 :: .gone 0 :: .gone 0 :: .gone 0 :: .gone 0 :: .gone 0 :: .gone 0 :: .gone 0 :: .gone 0 :: .gone 0 :: .gone 0 :: .gone 0 :: .gone 0 :: .gone 0 :: .gone 0 :: .gone 0 :: .gone 0 :: .gone 0 :: .gone 0 :: .gone 0 :: .gone 0 :: .gone 0 :: .gone 0 :: .gone 0 :: .gone 0 :: .gone 0 :: .gone 0 :: .gone 0 :: .gone 0 :: .gone 0 :: .gone 0 :: .gone 0 :: .gone 0 :: .gone 0 :: .gone 0 :: .gone 0 :: .gone 0 :: .gone 0 :: .gone 0 :: .gone 0 :: .gone 0 :: .gone 0 :: .gone 0 :: .gone 0 :: .gone 0 :: .gone 0 :: .gone 0 :: .gone 0 :: .gone 0 :: .gone 0 :: .gone 0 :: .gone 0 :: .gone 0 :: .gone 0 :: .gone 0 :: .gone 0 :: .gone 0 :: .gone 0 :: .gone 0 :: .gone 0 :: .gone 0 :: .gone 0 :: .gone 0 :: .gone 0 :: .gone 0 :: .gone 0 :: .gone 0 :: .gone 0 :: .gone 0 :: .gone 0 :: .gone 0 :: .gone 0 :: .gone 0 :: .gone 0 :: .gone 0 :: .gone 0 :: .gone 0 :: .gone 0 :: .gone 0 :: .gone 0 :: []), [none, none, none, none, none, none, none, none, none, none, none, none]⟩) (by kernel_rfl) ?_
        (repeat' (first | (with_reducible apply Vq.WO_nil) | ((with_reducible apply Vq.WO_cons); (· first | exact rfl); (try simp only [z1, z2, z3, z4, z5, z6, z7, z8, z9, z10, z11, z12, z13, z14, z15, z16, z17, z18, List.length_map, V.withLeaves, V.borrow, zero1, freeze1, borrows, borrow1, V.leaves, V.nextg, Nat.reduceAdd, Nat.reduceSub, layTup, obj1, splice, Bool.false_eq_true, if_true, if_false, Bool.not_true, Bool.not_false, Vq.take_mapl, Int.toNat_natCast, Int.toNat_zero, Nat.add_zero, Nat.sub_zero, Nat.zero_add, Int.reduceToNat])) | (with_reducible first | apply Vq.W_seq | apply Vq.W_region | apply Vq.Qs_n | apply Vq.W_skip | apply Vq.W_ret | apply Vq.W_exit | apply Vq.W_block | apply Vq.Qs_r | apply Vq.Qs_e | apply Vq.Qb_n0 | apply Vq.Qb_x0 | apply Vq.Qb_r) | ((with_reducible apply Vq.Qb_ne); (· decide)) | ((with_reducible apply Vq.W_condT); (· exact rfl)) | ((with_reducible apply Vq.W_condF); (· exact rfl)) | ((first | ((with_reducible apply Vq.W_condD); (· exact rfl)) | ((with_reducible apply Vq.W_cond); (· exact rfl))); all_goals (intro hq; (try simp only [hq])))))
        first | (refine Vq.Qe_r ?_; first | kernel_rfl | exact rfl) | (refine Vq.Qe_n ?_; first | kernel_rfl | exact rfl)
    · (refine Vq.call_Wx (fn := v6) (body := b6) hG6 (by omega) ⟨rfl, by decide⟩ rfl (by (try simp only [Vq.start, List.length_cons, List.length_nil, List.map_cons, List.map_nil, List.cons_append, List.nil_append, List.replicate_succ, List.replicate_zero, Nat.reduceAdd, Nat.reduceSub, v6]); exact rfl) (by (try simp only [List.length_cons, List.length_nil, Nat.reduceAdd, Nat.zero_add]); exact rfl) (fun m hm => ?_); unfold b6; (refine Vq.runO (And.intro hbig (And.intro hlong trivial)) trivial ?_))
      first | (refine Vq.Qe_r ?_; first | kernel_rfl | exact rfl) | (refine Vq.Qe_n ?_; first | kernel_rfl | exact rfl)
  · (refine Vq.call_Wx (fn := v6) (body := b6) hG6 (by omega) ⟨rfl, by decide⟩ rfl (by (try simp only [Vq.start, List.length_cons, List.length_nil, List.map_cons, List.map_nil, List.cons_append, List.nil_append, List.replicate_succ, List.replicate_zero, Nat.reduceAdd, Nat.reduceSub, v6]); exact rfl) (by (try simp only [List.length_cons, List.length_nil, Nat.reduceAdd, Nat.zero_add]); exact rfl) (fun m hm => ?_); unfold b6; (refine Vq.runO (And.intro hbig trivial) trivial ?_))
    first | (refine Vq.Qe_r ?_; first | kernel_rfl | exact rfl) | (refine Vq.Qe_n ?_; first | kernel_rfl | exact rfl)
end
end L1
end Go.Vq

