/- The V-level machine, run on values that are not known (no law of Go is stated here). -/
import Derived.Test.YtbbpandancpibaaQ
import Derived.KernelRfl
set_option linter.unusedVariables false
set_option linter.unusedSimpArgs false
set_option linter.unusedSectionVars false
namespace Go.Vq
namespace P1
open Go
set_option maxRecDepth 1000000
set_option maxHeartbeats 8000000
abbrev b17 : VCode := .seq (.region [⟨some 2, .assign (.val .nil), none, 0⟩] false) (.seq (.region [⟨some 4, .move (.tmp 0), none, 0⟩, ⟨some 3, .assign (.tmp 4), none, 1⟩] false) (.seq (.seq (.region [⟨some 5, .move (.tmp 3), none, 0⟩, ⟨some 6, .bin (.lss) (.tmp 5) (.val (.int .i64 0)), none, 1⟩] false) (.cond (.tmp 6) (.region [⟨some 3, .assign (.val (.int .i64 0)), none, 0⟩] false) (.skip))) (.seq (.seq (.region [⟨some 7, .move (.tmp 3), none, 0⟩, ⟨some 8, .bin (.gtr) (.tmp 7) (.val (.int .i64 4096)), none, 1⟩] false) (.cond (.tmp 8) (.region [⟨some 3, .assign (.val (.int .i64 4096)), none, 0⟩] false) (.skip))) (.seq (.region [⟨some 9, .move (.tmp 3), none, 0⟩, ⟨some 10, .makeSlice 64 64 (.agg (Z8 64)) (.tmp 9) (.tmp 9), none, 1⟩, ⟨some 11, .move (.tmp 3), none, 0⟩, ⟨some 12, .makeSlice 64 64 (.agg (Z8 64)) (.tmp 11) (.tmp 11), none, 4⟩, ⟨some 13, .build [(.nilS 64), (.nilS 64), (.nilS 1), (.nilS 64), (.bool false), (.bool false), (.int .i64 0)] [(0, 1, (.tmp 10)), (1, 1, (.tmp 12))], none, 15⟩, ⟨some 14, .box 0 7 (.tmp 13), none, 31⟩, ⟨some 2, .assign (.tmp 14), none, 63⟩] true) (.ret)))))
abbrev v17 : VFunc := { nparams := 1, ntmps := 15, nsites := 1, results := [.tmp 2], body := b17 }
abbrev b22 : VCode := .seq (.region [⟨some 4, .move (.tmp 0), none, 0⟩, ⟨some 5, .move (.tmp 1), none, 0⟩, ⟨some 6, .bin (.geq) (.tmp 5) (.val (.int .i64 0)), none, 2⟩, ⟨some 7, .nilCheck (.tmp 4), none, 7⟩, ⟨some 8, .fieldAddr 5 (.tmp 7), none, 15⟩, ⟨none, .store 1 (.tmp 8) (.tmp 6), none, 31⟩] false) (.region [⟨some 9, .move (.tmp 0), none, 0⟩, ⟨some 10, .move (.tmp 1), none, 0⟩, ⟨some 11, .nilCheck (.tmp 9), none, 3⟩, ⟨some 12, .fieldAddr 6 (.tmp 11), none, 7⟩, ⟨none, .store 1 (.tmp 12) (.tmp 10), none, 15⟩] false)
abbrev v22 : VFunc := { nparams := 2, ntmps := 13, nsites := 0, results := [], body := b22 }
abbrev b57 : VCode := .seq (.region [⟨some 2, .assign (.val (.bool false)), none, 0⟩] false) (.seq (.seq (.region [⟨some 3, .move (.tmp 0), none, 0⟩, ⟨some 4, .nilCheck (.tmp 3), none, 1⟩, ⟨some 5, .fieldAddr 5 (.tmp 4), none, 3⟩, ⟨some 6, .load false 1 (.tmp 5), none, 7⟩, ⟨some 7, .move (.tmp 6), none, 15⟩, ⟨some 8, .move (.tmp 0), some (7, true), 31⟩, ⟨some 9, .nilCheck (.tmp 8), some (7, true), 63⟩, ⟨some 10, .fieldAddr 6 (.tmp 9), some (7, true), 127⟩, ⟨some 11, .load false 1 (.tmp 10), some (7, true), 255⟩, ⟨some 12, .eq false (.num) (.tmp 11) (.val (.int .i64 0)), some (7, true), 511⟩, ⟨some 13, .pick (.tmp 7) (.tmp 12) (.val (.bool false)), none, 1023⟩] false) (.cond (.tmp 13) (.region [⟨some 14, .move (.tmp 0), none, 0⟩, ⟨some 15, .nilCheck (.tmp 14), none, 1⟩, ⟨some 16, .fieldAddr 4 (.tmp 15), none, 3⟩, ⟨none, .store 1 (.tmp 16) (.val (.bool true)), none, 7⟩] false) (.skip))) (.seq (.seq (.region [⟨some 17, .move (.tmp 0), none, 0⟩, ⟨some 18, .nilCheck (.tmp 17), none, 1⟩, ⟨some 19, .fieldAddr 4 (.tmp 18), none, 3⟩, ⟨some 20, .load false 1 (.tmp 19), none, 7⟩] false) (.cond (.tmp 20) (.seq (.region [⟨some 2, .assign (.val (.bool false)), none, 0⟩] false) (.ret)) (.skip))) (.seq (.seq (.region [⟨some 21, .move (.tmp 0), none, 0⟩, ⟨some 22, .nilCheck (.tmp 21), none, 1⟩, ⟨some 23, .fieldAddr 5 (.tmp 22), none, 3⟩, ⟨some 24, .load false 1 (.tmp 23), none, 7⟩] false) (.cond (.tmp 24) (.region [⟨some 25, .move (.tmp 0), none, 0⟩, ⟨some 26, .nilCheck (.tmp 25), none, 1⟩, ⟨some 27, .fieldAddr 6 (.tmp 26), none, 3⟩, ⟨some 28, .load false 1 (.tmp 27), none, 7⟩, ⟨some 29, .bin (.sub) (.tmp 28) (.val (.int .i64 1)), none, 15⟩, ⟨some 30, .nilCheck (.tmp 25), none, 31⟩, ⟨some 31, .fieldAddr 6 (.tmp 30), none, 63⟩, ⟨none, .store 1 (.tmp 31) (.tmp 29), none, 127⟩] false) (.skip))) (.seq (.region [⟨some 2, .assign (.val (.bool true)), none, 0⟩] false) (.ret)))))
abbrev v57 : VFunc := { nparams := 1, ntmps := 32, nsites := 0, results := [.tmp 2], body := b57 }
abbrev b27 : VCode := .seq (.region [⟨some 5, .box 0 64 (.tmp 2), none, 0⟩, ⟨some 6, .assign (.val (.int .i64 0)), none, 0⟩] false) (.seq (.seq (.region [⟨some 7, .move (.tmp 1), none, 0⟩, ⟨some 8, .bin (.lss) (.tmp 7) (.val (.int .i64 0)), none, 1⟩, ⟨some 9, .move (.tmp 8), none, 3⟩, ⟨some 10, .move (.tmp 1), some (9, false), 7⟩, ⟨some 11, .move (.tmp 0), some (9, false), 7⟩, ⟨some 12, .nilCheck (.tmp 11), some (9, false), 23⟩, ⟨some 13, .fieldAddr 1 (.tmp 12), some (9, false), 55⟩, ⟨some 14, .load false 1 (.tmp 13), some (9, false), 119⟩, ⟨some 15, .len (.slc 64) (.tmp 14), some (9, false), 247⟩, ⟨some 16, .bin (.geq) (.tmp 10) (.tmp 15), some (9, false), 511⟩, ⟨some 17, .pick (.tmp 9) (.val (.bool true)) (.tmp 16), none, 1023⟩] false) (.cond (.tmp 17) (.seq (.region [⟨some 6, .assign (.val (.int .i64 71)), none, 0⟩] false) (.ret)) (.skip))) (.seq (.seq (.region [⟨some 18, .move (.tmp 0), none, 0⟩, ⟨some 19, .call false 57 1 [(.tmp 18)], none, 1⟩, ⟨some 20, .un (.not) (.tmp 19), none, 3⟩] false) (.cond (.tmp 20) (.seq (.region [⟨some 6, .assign (.val (.int .i64 72)), none, 0⟩] false) (.ret)) (.skip))) (.seq (.region [⟨some 21, .move (.tmp 0), none, 0⟩, ⟨some 22, .nilCheck (.tmp 21), none, 1⟩, ⟨some 23, .fieldAddr 1 (.tmp 22), none, 3⟩, ⟨some 24, .load false 1 (.tmp 23), none, 7⟩, ⟨some 25, .move (.tmp 1), none, 0⟩, ⟨some 26, .load true 64 (.tmp 5), none, 0⟩, ⟨some 27, .indexAddr none 64 (.tmp 24) (.tmp 25), none, 63⟩, ⟨none, .store 64 (.tmp 27) (.tmp 26), none, 127⟩] true) (.seq (.region [⟨some 28, .move (.tmp 0), none, 0⟩, ⟨some 29, .move (.tmp 0), none, 0⟩, ⟨some 30, .nilCheck (.tmp 29), none, 2⟩, ⟨some 31, .fieldAddr 2 (.tmp 30), none, 6⟩, ⟨some 32, .load false 1 (.tmp 31), none, 14⟩, ⟨some 33, .move (.tmp 1), none, 0⟩, ⟨some 34, .buildSlice 1 [(.int .i64 0)] [(0, (.tmp 33))], none, 32⟩, ⟨some 35, .append 1 8 (.tmp 32) (.tmp 34), none, 126⟩, ⟨some 36, .nilCheck (.tmp 28), none, 255⟩, ⟨some 37, .fieldAddr 2 (.tmp 36), none, 511⟩, ⟨none, .store 1 (.tmp 37) (.tmp 35), none, 1023⟩] false) (.seq (.region [⟨some 38, .move (.tmp 0), none, 0⟩, ⟨some 39, .move (.tmp 0), none, 0⟩, ⟨some 40, .nilCheck (.tmp 39), none, 2⟩, ⟨some 41, .fieldAddr 3 (.tmp 40), none, 6⟩, ⟨some 42, .load false 1 (.tmp 41), none, 14⟩, ⟨some 43, .load true 64 (.tmp 5), none, 0⟩, ⟨some 44, .buildSlice 64 [(.agg (Z8 64))] [(0, (.tmp 43))], none, 32⟩, ⟨some 45, .append 64 64 (.tmp 42) (.tmp 44), none, 126⟩, ⟨some 46, .nilCheck (.tmp 38), none, 255⟩, ⟨some 47, .fieldAddr 3 (.tmp 46), none, 511⟩, ⟨none, .store 1 (.tmp 47) (.tmp 45), none, 1023⟩] true) (.seq (.region [⟨some 6, .assign (.val (.int .i64 0)), none, 0⟩] false) (.ret)))))))
abbrev v27 : VFunc := { nparams := 3, ntmps := 48, nsites := 1, results := [.tmp 6], body := b27 }
abbrev b20 : VCode := .seq (.region [⟨some 2, .assign (.val (.int .i64 0)), none, 0⟩] false) (.seq (.seq (.region [⟨some 3, .move (.tmp 0), none, 0⟩, ⟨some 4, .call false 57 0 [(.tmp 3)], none, 1⟩, ⟨some 5, .un (.not) (.tmp 4), none, 3⟩] false) (.cond (.tmp 5) (.seq (.region [⟨some 2, .assign (.val (.int .i64 72)), none, 0⟩] false) (.ret)) (.skip))) (.seq (.region [⟨some 6, .move (.tmp 0), none, 0⟩, ⟨some 7, .buildSlice 64 [] [], none, 0⟩, ⟨some 8, .move (.tmp 0), none, 0⟩, ⟨some 9, .nilCheck (.tmp 8), none, 4⟩, ⟨some 10, .fieldAddr 1 (.tmp 9), none, 12⟩, ⟨some 11, .load false 1 (.tmp 10), none, 28⟩, ⟨some 12, .append 64 64 (.tmp 7) (.tmp 11), none, 62⟩, ⟨some 13, .nilCheck (.tmp 6), none, 127⟩, ⟨some 14, .fieldAddr 0 (.tmp 13), none, 255⟩, ⟨none, .store 1 (.tmp 14) (.tmp 12), none, 511⟩] false) (.seq (.region [⟨some 15, .move (.tmp 0), none, 0⟩, ⟨some 16, .nilCheck (.tmp 15), none, 1⟩, ⟨some 17, .fieldAddr 2 (.tmp 16), none, 3⟩, ⟨none, .store 1 (.tmp 17) (.val (.nilS 1)), none, 7⟩] false) (.seq (.region [⟨some 18, .move (.tmp 0), none, 0⟩, ⟨some 19, .nilCheck (.tmp 18), none, 1⟩, ⟨some 20, .fieldAddr 3 (.tmp 19), none, 3⟩, ⟨none, .store 1 (.tmp 20) (.val (.nilS 64)), none, 7⟩] false) (.seq (.region [⟨some 2, .assign (.val (.int .i64 0)), none, 0⟩] false) (.ret))))))
abbrev v20 : VFunc := { nparams := 1, ntmps := 21, nsites := 0, results := [.tmp 2], body := b20 }
/-! The document's plate. -/
abbrev plV (pl : List Nat) : List V := pl.map fun i : Nat => V.int .i64 (i : Int)
abbrev refO (su se : List (List Nat)) (pl : List Nat) (wh : List (List Nat)) (off counts : Bool) (left : Int) : Obj := .cells [.xsl 0 64 (su.map cellV), .xsl 0 64 (se.map cellV), .xsl 0 1 (plV pl), .xsl 0 64 (wh.map cellV), .bool off, .bool counts, .int .i64 left]
/-- The document's plate, of the same cells and writes ('lj': what its number of writes is, where nobody counts). -/
abbrev refP (es : List (List Nat)) (ls : List (Nat × List Nat)) (off : Bool) (left lj : Int) : Obj := refO es (ls.foldl wr es) (ls.map (·.1)) (ls.map (·.2)) off (decide (0 ≤ left)) (if 0 ≤ left then left else lj)
section
variable (G : VProg)
theorem rnew (hG : G 17 = some (.code v17)) (n : Int) : lim G 17 [.int .i64 n] [] = some (q0, [refP (List.replicate (max 0 (min n 4096)).toNat zero64) [] false (-1) 0]) := by
  obtain ⟨k, hk⟩ : ∃ k : Nat, max 0 (min n 4096) = (k : Int) := ⟨(max 0 (min n 4096)).toNat, by omega⟩
  have hk2 : k ≤ 4096 := by omega
  have ez : V.agg (Z8 64) = cellV zero64 := by unfold zero64; rw [byN_rep]
  have em : List.replicate k (cellV zero64) = (List.replicate k zero64).map cellV := by rw [List.map_replicate]
  rw [hk, Int.toNat_natCast]
  cases h1 : decide (n < 0)
  · cases h2 : decide (4096 < n)
    · have hn : n = (k : Int) := by simp at h1 h2; omega
      subst hn
      exact lim_fun hG (h := runV (And.intro h1 (And.intro h2 (And.intro ez em))) trivial trivial)
    · have hn : k = 4096 := by simp at h2; omega
      subst hn
      exact lim_fun hG (h := runV (And.intro h1 (And.intro h2 (And.intro ez em))) trivial trivial)
  · have hn : k = 0 := by simp at h1; omega
    subst hn
    exact lim_fun hG (h := runV (And.intro h1 (And.intro ez em)) trivial trivial)
theorem rlimit (hG : G 22 = some (.code v22)) (i : Int) (es ls off left lj) : lim G 22 [q0, .int .i64 i] [refP es ls off left lj] = some (.tup [], [refP es ls off (if -1 > i then -1 else i) i]) := by
  have e1 : decide (0 ≤ (if -1 > i then -1 else i)) = decide (0 ≤ i) := by
    rw [decide_eq_decide]; split <;> omega
  have e2 : (if 0 ≤ (if -1 > i then -1 else i) then (if -1 > i then -1 else i) else i) = i := by split <;> (try split) <;> (try omega)
  simp only [refP, e1, e2]
  exact lim_fun hG (h := runV trivial trivial trivial)
theorem power (hG : G 57 = some (.code v57)) (es ls off left lj) (hl : LR left) : lim G 57 [q0] [refP es ls off left lj] = some (.bool (!spO off left), [refP es ls (spO off left) (spL off left) lj]) := by
  obtain ⟨hl1, hl2⟩ := hl
  unfold spO spL
  simp only [refP]
  cases hz : left == 0
  · cases h0 : decide (0 ≤ left)
    · have : left = -1 := by simp at h0; omega
      subst this
      cases off
      all_goals exact lim_fun hG (h := runV trivial trivial trivial)
    · have hw : IntKind.i64.wrap (left - 1) = left - 1 := wrapi64 _ (by omega) (by omega)
      have h1 : 1 ≤ left := by simp at h0 hz; omega
      have e1 : (if (false || false) = true then left else if -1 > left - 1 then -1 else left - 1) = left - 1 := by rw [if_neg (by simp), if_neg (by omega)]
      have e2 : decide (0 ≤ left - 1) = true := by simp; omega
      have e3 : (if 0 ≤ left - 1 then left - 1 else lj) = left - 1 := if_pos (by omega)
      have e4 : (if 0 ≤ left then left else lj) = left := if_pos (by omega)
      cases off
      · rw [e1, e2, e3, e4]
        exact lim_fun hG (h := runV (And.intro hz hw) trivial trivial)
      · simp only [Bool.true_or, if_true, h0, e4]
        exact lim_fun hG (h := runV (And.intro hz hw) trivial trivial)
  · have : left = 0 := by simpa using hz
    subst this
    cases off
    all_goals exact lim_fun hG (h := runV trivial trivial trivial)
abbrev Hpow (G : VProg) : Prop := ∀ es ls off left lj (_ : LR left), lim G 57 [q0] [refP es ls off left lj] = some (.bool (!spO off left), [refP es ls (spO off left) (spL off left) lj])
theorem rput (hG : G 27 = some (.code v27)) (h48 : Hpow G) (i : Int) (c : List Nat) (hc : c.length = 64) (es ls off left lj) (he : ∀ c ∈ es, c.length = 64) (hw : ∀ w ∈ ls, w.2.length = 64) (hb : ls.length < 2 ^ 30) (hl : LR left) :
    lim G 27 [q0, .int .i64 i, cellV c] [refP es ls off left lj] = if inR i es.length then (if spO off left then some (.int .i64 72, [refP es ls true left lj]) else some (.int .i64 0, [refP es (ls ++ [(i.toNat, c)]) false (spL off left) lj])) else some (.int .i64 71, [refP es ls off left lj]) := by
  have hlen := foldl_wr_len es ls
  have h64' := foldl_wr_64 (es := es) (ls := ls) he hw
  have hp := h48 es ls off left lj hl
  have eL : spO off left = true → spL off left = left := by intro h; unfold spL; unfold spO at h; rw [if_pos h]
  cases h1 : decide (i < 0)
  · have hi : 0 ≤ i := by simpa using h1
    obtain ⟨k, rfl⟩ : ∃ k : Nat, i = k := ⟨i.toNat, by omega⟩
    cases h2 : decide ((es.length : Int) ≤ (k : Int))
    · have hin : inR (k : Int) es.length = true := by simp [inR] at h2 ⊢; omega
      have hk : k < (ls.foldl wr es).length := by rw [hlen]; simp at h2; omega
      have h64 := h64' _ (List.getElem_mem hk)
      have hkl : (k : Int) < (es.length : Int) := by simp at h2; omega
      simp only [hin, if_true, Int.toNat_natCast]
      cases hs : spO off left
      · simp only [Bool.false_eq_true, if_false]
        have ea : refP es (ls ++ [(k, c)]) false (spL off left) lj = refO es ((ls.foldl wr es).set k c) (ls.map (·.1) ++ [k]) (ls.map (·.2) ++ [c]) false (decide (0 ≤ spL off left)) (if 0 ≤ spL off left then spL off left else lj) := by
          simp only [refP, List.foldl_append, List.foldl_cons, List.foldl_nil, List.map_append, List.map_cons, List.map_nil]
        rw [ea]
        have hp' : lim G 57 [q0] [refO es (ls.foldl wr es) (ls.map (·.1)) (ls.map (·.2)) off (decide (0 ≤ left)) (if 0 ≤ left then left else lj)] = some (.bool true, [refO es (ls.foldl wr es) (ls.map (·.1)) (ls.map (·.2)) false (decide (0 ≤ spL off left)) (if 0 ≤ spL off left then spL off left else lj)]) := by
          have := hp; rw [hs] at this; exact this
        have hla : (ls.map (·.1)).length = ls.length := by simp
        have hlw : (ls.map (·.2)).length = ls.length := by simp
        obtain ⟨se, hse⟩ : ∃ se, se = ls.foldl wr es := ⟨_, rfl⟩
        obtain ⟨pl, hpl⟩ : ∃ pl, pl = ls.map (·.1) := ⟨_, rfl⟩
        obtain ⟨wh, hwh⟩ : ∃ wh, wh = ls.map (·.2) := ⟨_, rfl⟩
        simp only [← hse] at hlen hk h64
        rw [← hpl] at hla
        rw [← hwh] at hlw
        simp only [refP, ← hse, ← hpl, ← hwh] at hp' ⊢
        obtain ⟨d, hd⟩ : ∃ d, d = se[k] := ⟨_, rfl⟩
        rw [← hd] at h64
        have hg : (se.map cellV)[k]? = some (cellV d) := by rw [hd]; simp [hk]
        have e5 : (List.map cellV se).set k ((cellV d).setCells 0 (byN c)) = List.map cellV (se.set k c) := by
          rw [setCells_cell (h64.trans hc.symm), ← List.map_set]
        have e6 : plV pl ++ [V.int .i64 (k : Int)] = plV (pl ++ [k]) := by simp [plV]
        have e7 : wh.map cellV ++ [V.agg (byN c)] = (wh ++ [c]).map cellV := by simp
        have hb2 : (pl.length + 1) * 8 ≤ 140737488355328 := by omega
        have hb3 : (wh.length + 1) * 64 ≤ 140737488355328 := by omega
        obtain ⟨u1, hu1⟩ : ∃ u, (if 0 ≤ left then left else lj) = u := ⟨_, rfl⟩
        obtain ⟨u2, hu2⟩ : ∃ u, (if 0 ≤ spL off left then spL off left else lj) = u := ⟨_, rfl⟩
        obtain ⟨u3, hu3⟩ : ∃ u, decide (0 ≤ left) = u := ⟨_, rfl⟩
        obtain ⟨u4, hu4⟩ : ∃ u, decide (0 ≤ spL off left) = u := ⟨_, rfl⟩
        rw [hu1, hu2, hu3, hu4] at hp'
        rw [hu1, hu2, hu3, hu4]
        clear hla hlw he hw h64' eL hp h48 ea
        have tc := take_by hc
        have dc := drop_by hc
        have td := take_by h64
        have dd := drop_by h64
        exact lim_fun hG (h := runV (And.intro h1 (And.intro h2 (And.intro hlen (And.intro hc (And.intro h64 (And.intro hg (And.intro tc (And.intro dc (And.intro td (And.intro dd (And.intro hkl (And.intro e5 (And.intro e6 e7))))))))))))) trivial trivial)
      · simp only [if_true]
        have hp' : lim G 57 [q0] [refP es ls off left lj] = some (.bool false, [refP es ls true left lj]) := by
          have := hp; rw [hs, eL hs] at this; exact this
        clear hp
        exact lim_fun hG (h := runV (And.intro h1 (And.intro h2 (And.intro hlen (And.intro hc (And.intro (take_by hc) (drop_by hc)))))) trivial trivial)
    · have hin : inR (k : Int) es.length = false := by simp [inR] at h2 ⊢; omega
      simp only [hin, if_false, Bool.false_eq_true]
      exact lim_fun hG (h := runV (And.intro h1 (And.intro h2 (And.intro hlen (And.intro hc (take_by hc))))) trivial trivial)
  · have hin : inR i es.length = false := by simp [inR] at h1 ⊢; omega
    simp only [hin, if_false, Bool.false_eq_true]
    exact lim_fun hG (h := runV (And.intro h1 (And.intro hc (take_by hc))) trivial trivial)
theorem rflush (hG : G 20 = some (.code v20)) (h48 : Hpow G) (es ls off left lj) (hb : es.length < 2 ^ 30) (hl : LR left) :
    lim G 20 [q0] [refP es ls off left lj] = if spO off left then some (.int .i64 72, [refP es ls true left lj]) else some (.int .i64 0, [refP (ls.foldl wr es) [] false (spL off left) lj]) := by
  have hlen := foldl_wr_len es ls
  have hp := h48 es ls off left lj hl
  have eL : spO off left = true → spL off left = left := by intro h; unfold spL; unfold spO at h; rw [if_pos h]
  cases hs : spO off left
  · simp only [Bool.false_eq_true, if_false]
    have hp' : lim G 57 [q0] [refP es ls off left lj] = some (.bool true, [refP es ls false (spL off left) lj]) := by
      have := hp; rw [hs] at this; exact this
    clear hp
    have ht : List.take es.length (List.map cellV (ls.foldl wr es)) = List.map cellV (ls.foldl wr es) := List.take_of_length_le (by simp [hlen])
    have hb2 : (ls.foldl wr es).length * 64 ≤ 140737488355328 := by omega
    exact lim_fun hG (h := runV (And.intro hlen ht) trivial trivial)
  · simp only [if_true]
    have hp' : lim G 57 [q0] [refP es ls off left lj] = some (.bool false, [refP es ls true left lj]) := by
      have := hp; rw [hs, eL hs] at this; exact this
    clear hp
    exact lim_fun hG (h := runV trivial trivial trivial)
end
end P1
end Go.Vq

namespace Go.Vq
namespace P1
open Go
set_option maxRecDepth 1000000
set_option maxHeartbeats 8000000
abbrev b24 : VCode := .seq (.seq (.region [⟨some 12, .move (.tmp 0), none, 0⟩, ⟨some 13, .nilCheck (.tmp 12), none, 1⟩, ⟨some 14, .fieldAddr 2 (.tmp 13), none, 3⟩, ⟨some 15, .load false 1 (.tmp 14), none, 7⟩, ⟨some 16, .len (.slc 1) (.tmp 15), none, 15⟩, ⟨some 17, .move (.val (.int .i64 0)), none, 0⟩] false) (.block 0 (some [0]) (.loop (some [0, 1, 2, 3, 12, 13, 14, 15, 16, 17]) (.seq (.region [⟨some 18, .bin (.lss) (.tmp 17) (.tmp 16), none, 0⟩] false) (.seq (.cond (.tmp 18) (.skip) (.exit 0)) (.seq (.block 1 (some [0, 1, 2, 3, 12, 13, 14, 15, 16, 17]) (.seq (.region [⟨some 19, .move (.tmp 17), none, 0⟩, ⟨some 20, .indexAddr none 1 (.tmp 15) (.tmp 17), none, 0⟩, ⟨some 21, .load false 1 (.tmp 20), none, 2⟩, ⟨some 8, .assign (.tmp 19), none, 7⟩, ⟨some 9, .assign (.tmp 21), none, 15⟩] false) (.seq (.region [⟨some 10, .assign (.val (.int .i64 0)), none, 0⟩] false) (.block 2 (some [0, 1, 2, 3, 12, 13, 14, 15, 16, 17]) (.loop (some [0, 1, 2, 3, 8, 9, 10, 12, 13, 14, 15, 16, 17, 19, 20, 21]) (.seq (.seq (.region [⟨some 22, .move (.tmp 10), none, 0⟩, ⟨some 23, .bin (.lss) (.tmp 22) (.val (.int .i64 64)), none, 1⟩] false) (.cond (.tmp 23) (.skip) (.exit 2))) (.seq (.block 3 none (.seq (.region [⟨some 26, .move (.tmp 8), none, 0⟩, ⟨some 27, .bin (.quo) (.tmp 26) (.val (.int .i64 8)), none, 1⟩, ⟨some 28, .move (.tmp 1), none, 0⟩, ⟨some 29, .len (.slc 1) (.tmp 28), none, 4⟩, ⟨some 30, .bin (.lss) (.tmp 27) (.tmp 29), none, 15⟩, ⟨some 31, .move (.tmp 30), none, 31⟩, ⟨some 32, .move (.tmp 1), some (31, true), 63⟩, ⟨some 33, .move (.tmp 8), some (31, true), 63⟩, ⟨some 34, .bin (.quo) (.tmp 33) (.val (.int .i64 8)), some (31, true), 191⟩, ⟨some 35, .indexAddr none 1 (.tmp 32) (.tmp 34), some (31, true), 511⟩, ⟨some 36, .load false 1 (.tmp 35), some (31, true), 1023⟩, ⟨some 37, .move (.tmp 8), some (31, true), 63⟩, ⟨some 38, .bin (.rem) (.tmp 37) (.val (.int .i64 8)), some (31, true), 2111⟩, ⟨some 39, .bin (.shr) (.tmp 36) (.tmp 38), some (31, true), 8191⟩, ⟨some 40, .bin (.rem) (.tmp 39) (.val (.int .u8 2)), some (31, true), 16383⟩, ⟨some 41, .eq false (.num) (.tmp 40) (.val (.int .u8 1)), some (31, true), 32767⟩, ⟨some 42, .pick (.tmp 31) (.tmp 41) (.val (.bool false)), none, 65535⟩, ⟨some 11, .assign (.tmp 42), none, 131071⟩] false) (.seq (.seq (.region [⟨some 43, .move (.tmp 8), none, 0⟩, ⟨some 44, .move (.tmp 2), none, 0⟩, ⟨some 45, .eq false (.num) (.tmp 43) (.tmp 44), none, 3⟩] false) (.cond (.tmp 45) (.region [⟨some 46, .move (.tmp 10), none, 0⟩, ⟨some 47, .move (.tmp 3), none, 0⟩, ⟨some 48, .bin (.lss) (.tmp 46) (.tmp 47), none, 3⟩, ⟨some 11, .assign (.tmp 48), none, 7⟩] false) (.skip))) (.seq (.region [⟨some 49, .move (.tmp 11), none, 0⟩] false) (.cond (.tmp 49) (.region [⟨some 50, .move (.tmp 0), none, 0⟩, ⟨some 51, .nilCheck (.tmp 50), none, 1⟩, ⟨some 52, .fieldAddr 0 (.tmp 51), none, 3⟩, ⟨some 53, .load false 1 (.tmp 52), none, 7⟩, ⟨some 54, .move (.tmp 9), none, 0⟩, ⟨some 55, .move (.tmp 10), none, 0⟩, ⟨some 56, .move (.tmp 0), none, 0⟩, ⟨some 57, .nilCheck (.tmp 56), none, 64⟩, ⟨some 58, .fieldAddr 3 (.tmp 57), none, 192⟩, ⟨some 59, .load false 1 (.tmp 58), none, 448⟩, ⟨some 60, .move (.tmp 8), none, 0⟩, ⟨some 61, .move (.tmp 10), none, 0⟩, ⟨some 62, .indexAddr none 64 (.tmp 59) (.tmp 60), none, 1984⟩, ⟨some 63, .indexAddr (some 64) 1 (.tmp 62) (.tmp 61), none, 8128⟩, ⟨some 64, .load false 1 (.tmp 63), none, 16320⟩, ⟨some 65, .indexAddr none 64 (.tmp 53) (.tmp 54), none, 31⟩, ⟨some 66, .indexAddr (some 64) 1 (.tmp 65) (.tmp 55), none, 65535⟩, ⟨none, .store 1 (.tmp 66) (.tmp 64), none, 131071⟩] true) (.skip)))))) (.region [⟨some 24, .move (.tmp 10), none, 0⟩, ⟨some 25, .bin (.add) (.tmp 24) (.val (.int .i64 1)), none, 1⟩, ⟨some 10, .assign (.tmp 25), none, 3⟩] false)))))))) (.region [⟨some 67, .bin (.add) (.tmp 17) (.val (.int .i64 1)), none, 0⟩, ⟨some 17, .move (.tmp 67), none, 1⟩] false))))))) (.seq (.region [⟨some 68, .move (.tmp 0), none, 0⟩, ⟨some 69, .buildSlice 64 [] [], none, 0⟩, ⟨some 70, .move (.tmp 0), none, 0⟩, ⟨some 71, .nilCheck (.tmp 70), none, 4⟩, ⟨some 72, .fieldAddr 0 (.tmp 71), none, 12⟩, ⟨some 73, .load false 1 (.tmp 72), none, 28⟩, ⟨some 74, .append 64 64 (.tmp 69) (.tmp 73), none, 62⟩, ⟨some 75, .nilCheck (.tmp 68), none, 127⟩, ⟨some 76, .fieldAddr 1 (.tmp 75), none, 255⟩, ⟨none, .store 1 (.tmp 76) (.tmp 74), none, 511⟩] false) (.seq (.region [⟨some 77, .move (.tmp 0), none, 0⟩, ⟨some 78, .nilCheck (.tmp 77), none, 1⟩, ⟨some 79, .fieldAddr 2 (.tmp 78), none, 3⟩, ⟨none, .store 1 (.tmp 79) (.val (.nilS 1)), none, 7⟩] false) (.seq (.region [⟨some 80, .move (.tmp 0), none, 0⟩, ⟨some 81, .nilCheck (.tmp 80), none, 1⟩, ⟨some 82, .fieldAddr 3 (.tmp 81), none, 3⟩, ⟨none, .store 1 (.tmp 82) (.val (.nilS 64)), none, 7⟩] false) (.seq (.region [⟨some 83, .move (.tmp 0), none, 0⟩, ⟨some 84, .nilCheck (.tmp 83), none, 1⟩, ⟨some 85, .fieldAddr 4 (.tmp 84), none, 3⟩, ⟨none, .store 1 (.tmp 85) (.val (.bool false)), none, 7⟩] false) (.region [⟨some 86, .move (.tmp 0), none, 0⟩, ⟨some 87, .nilCheck (.tmp 86), none, 1⟩, ⟨some 88, .fieldAddr 5 (.tmp 87), none, 3⟩, ⟨none, .store 1 (.tmp 88) (.val (.bool false)), none, 7⟩] false)))))
abbrev v24 : VFunc := { nparams := 4, ntmps := 89, nsites := 0, results := [], body := b24 }
def bodyRf : VCode := (.seq (.region [⟨some 18, .bin (.lss) (.tmp 17) (.tmp 16), none, 0⟩] false) (.seq (.cond (.tmp 18) (.skip) (.exit 0)) (.seq (.block 1 (some [0, 1, 2, 3, 12, 13, 14, 15, 16, 17]) (.seq (.region [⟨some 19, .move (.tmp 17), none, 0⟩, ⟨some 20, .indexAddr none 1 (.tmp 15) (.tmp 17), none, 0⟩, ⟨some 21, .load false 1 (.tmp 20), none, 2⟩, ⟨some 8, .assign (.tmp 19), none, 7⟩, ⟨some 9, .assign (.tmp 21), none, 15⟩] false) (.seq (.region [⟨some 10, .assign (.val (.int .i64 0)), none, 0⟩] false) (.block 2 (some [0, 1, 2, 3, 12, 13, 14, 15, 16, 17]) (.loop (some [0, 1, 2, 3, 8, 9, 10, 12, 13, 14, 15, 16, 17, 19, 20, 21]) (.seq (.seq (.region [⟨some 22, .move (.tmp 10), none, 0⟩, ⟨some 23, .bin (.lss) (.tmp 22) (.val (.int .i64 64)), none, 1⟩] false) (.cond (.tmp 23) (.skip) (.exit 2))) (.seq (.block 3 none (.seq (.region [⟨some 26, .move (.tmp 8), none, 0⟩, ⟨some 27, .bin (.quo) (.tmp 26) (.val (.int .i64 8)), none, 1⟩, ⟨some 28, .move (.tmp 1), none, 0⟩, ⟨some 29, .len (.slc 1) (.tmp 28), none, 4⟩, ⟨some 30, .bin (.lss) (.tmp 27) (.tmp 29), none, 15⟩, ⟨some 31, .move (.tmp 30), none, 31⟩, ⟨some 32, .move (.tmp 1), some (31, true), 63⟩, ⟨some 33, .move (.tmp 8), some (31, true), 63⟩, ⟨some 34, .bin (.quo) (.tmp 33) (.val (.int .i64 8)), some (31, true), 191⟩, ⟨some 35, .indexAddr none 1 (.tmp 32) (.tmp 34), some (31, true), 511⟩, ⟨some 36, .load false 1 (.tmp 35), some (31, true), 1023⟩, ⟨some 37, .move (.tmp 8), some (31, true), 63⟩, ⟨some 38, .bin (.rem) (.tmp 37) (.val (.int .i64 8)), some (31, true), 2111⟩, ⟨some 39, .bin (.shr) (.tmp 36) (.tmp 38), some (31, true), 8191⟩, ⟨some 40, .bin (.rem) (.tmp 39) (.val (.int .u8 2)), some (31, true), 16383⟩, ⟨some 41, .eq false (.num) (.tmp 40) (.val (.int .u8 1)), some (31, true), 32767⟩, ⟨some 42, .pick (.tmp 31) (.tmp 41) (.val (.bool false)), none, 65535⟩, ⟨some 11, .assign (.tmp 42), none, 131071⟩] false) (.seq (.seq (.region [⟨some 43, .move (.tmp 8), none, 0⟩, ⟨some 44, .move (.tmp 2), none, 0⟩, ⟨some 45, .eq false (.num) (.tmp 43) (.tmp 44), none, 3⟩] false) (.cond (.tmp 45) (.region [⟨some 46, .move (.tmp 10), none, 0⟩, ⟨some 47, .move (.tmp 3), none, 0⟩, ⟨some 48, .bin (.lss) (.tmp 46) (.tmp 47), none, 3⟩, ⟨some 11, .assign (.tmp 48), none, 7⟩] false) (.skip))) (.seq (.region [⟨some 49, .move (.tmp 11), none, 0⟩] false) (.cond (.tmp 49) (.region [⟨some 50, .move (.tmp 0), none, 0⟩, ⟨some 51, .nilCheck (.tmp 50), none, 1⟩, ⟨some 52, .fieldAddr 0 (.tmp 51), none, 3⟩, ⟨some 53, .load false 1 (.tmp 52), none, 7⟩, ⟨some 54, .move (.tmp 9), none, 0⟩, ⟨some 55, .move (.tmp 10), none, 0⟩, ⟨some 56, .move (.tmp 0), none, 0⟩, ⟨some 57, .nilCheck (.tmp 56), none, 64⟩, ⟨some 58, .fieldAddr 3 (.tmp 57), none, 192⟩, ⟨some 59, .load false 1 (.tmp 58), none, 448⟩, ⟨some 60, .move (.tmp 8), none, 0⟩, ⟨some 61, .move (.tmp 10), none, 0⟩, ⟨some 62, .indexAddr none 64 (.tmp 59) (.tmp 60), none, 1984⟩, ⟨some 63, .indexAddr (some 64) 1 (.tmp 62) (.tmp 61), none, 8128⟩, ⟨some 64, .load false 1 (.tmp 63), none, 16320⟩, ⟨some 65, .indexAddr none 64 (.tmp 53) (.tmp 54), none, 31⟩, ⟨some 66, .indexAddr (some 64) 1 (.tmp 65) (.tmp 55), none, 65535⟩, ⟨none, .store 1 (.tmp 66) (.tmp 64), none, 131071⟩] true) (.skip)))))) (.region [⟨some 24, .move (.tmp 10), none, 0⟩, ⟨some 25, .bin (.add) (.tmp 24) (.val (.int .i64 1)), none, 1⟩, ⟨some 10, .assign (.tmp 25), none, 3⟩] false)))))))) (.region [⟨some 67, .bin (.add) (.tmp 17) (.val (.int .i64 1)), none, 0⟩, ⟨some 17, .move (.tmp 67), none, 1⟩] false))))
def inRf : VCode := (.seq (.seq (.region [⟨some 22, .move (.tmp 10), none, 0⟩, ⟨some 23, .bin (.lss) (.tmp 22) (.val (.int .i64 64)), none, 1⟩] false) (.cond (.tmp 23) (.skip) (.exit 2))) (.seq (.block 3 none (.seq (.region [⟨some 26, .move (.tmp 8), none, 0⟩, ⟨some 27, .bin (.quo) (.tmp 26) (.val (.int .i64 8)), none, 1⟩, ⟨some 28, .move (.tmp 1), none, 0⟩, ⟨some 29, .len (.slc 1) (.tmp 28), none, 4⟩, ⟨some 30, .bin (.lss) (.tmp 27) (.tmp 29), none, 15⟩, ⟨some 31, .move (.tmp 30), none, 31⟩, ⟨some 32, .move (.tmp 1), some (31, true), 63⟩, ⟨some 33, .move (.tmp 8), some (31, true), 63⟩, ⟨some 34, .bin (.quo) (.tmp 33) (.val (.int .i64 8)), some (31, true), 191⟩, ⟨some 35, .indexAddr none 1 (.tmp 32) (.tmp 34), some (31, true), 511⟩, ⟨some 36, .load false 1 (.tmp 35), some (31, true), 1023⟩, ⟨some 37, .move (.tmp 8), some (31, true), 63⟩, ⟨some 38, .bin (.rem) (.tmp 37) (.val (.int .i64 8)), some (31, true), 2111⟩, ⟨some 39, .bin (.shr) (.tmp 36) (.tmp 38), some (31, true), 8191⟩, ⟨some 40, .bin (.rem) (.tmp 39) (.val (.int .u8 2)), some (31, true), 16383⟩, ⟨some 41, .eq false (.num) (.tmp 40) (.val (.int .u8 1)), some (31, true), 32767⟩, ⟨some 42, .pick (.tmp 31) (.tmp 41) (.val (.bool false)), none, 65535⟩, ⟨some 11, .assign (.tmp 42), none, 131071⟩] false) (.seq (.seq (.region [⟨some 43, .move (.tmp 8), none, 0⟩, ⟨some 44, .move (.tmp 2), none, 0⟩, ⟨some 45, .eq false (.num) (.tmp 43) (.tmp 44), none, 3⟩] false) (.cond (.tmp 45) (.region [⟨some 46, .move (.tmp 10), none, 0⟩, ⟨some 47, .move (.tmp 3), none, 0⟩, ⟨some 48, .bin (.lss) (.tmp 46) (.tmp 47), none, 3⟩, ⟨some 11, .assign (.tmp 48), none, 7⟩] false) (.skip))) (.seq (.region [⟨some 49, .move (.tmp 11), none, 0⟩] false) (.cond (.tmp 49) (.region [⟨some 50, .move (.tmp 0), none, 0⟩, ⟨some 51, .nilCheck (.tmp 50), none, 1⟩, ⟨some 52, .fieldAddr 0 (.tmp 51), none, 3⟩, ⟨some 53, .load false 1 (.tmp 52), none, 7⟩, ⟨some 54, .move (.tmp 9), none, 0⟩, ⟨some 55, .move (.tmp 10), none, 0⟩, ⟨some 56, .move (.tmp 0), none, 0⟩, ⟨some 57, .nilCheck (.tmp 56), none, 64⟩, ⟨some 58, .fieldAddr 3 (.tmp 57), none, 192⟩, ⟨some 59, .load false 1 (.tmp 58), none, 448⟩, ⟨some 60, .move (.tmp 8), none, 0⟩, ⟨some 61, .move (.tmp 10), none, 0⟩, ⟨some 62, .indexAddr none 64 (.tmp 59) (.tmp 60), none, 1984⟩, ⟨some 63, .indexAddr (some 64) 1 (.tmp 62) (.tmp 61), none, 8128⟩, ⟨some 64, .load false 1 (.tmp 63), none, 16320⟩, ⟨some 65, .indexAddr none 64 (.tmp 53) (.tmp 54), none, 31⟩, ⟨some 66, .indexAddr (some 64) 1 (.tmp 65) (.tmp 55), none, 65535⟩, ⟨none, .store 1 (.tmp 66) (.tmp 64), none, 131071⟩] true) (.skip)))))) (.region [⟨some 24, .move (.tmp 10), none, 0⟩, ⟨some 25, .bin (.add) (.tmp 24) (.val (.int .i64 1)), none, 1⟩, ⟨some 10, .assign (.tmp 25), none, 3⟩] false)))
def bitR (x j : Nat) : Bool := (((x : Int).fdiv (2 ^ min j IntKind.u8.bits)).tmod 2) == 1
def SRi2 (kp : List Nat) (torn at' : Int) (su se : List (List Nat)) (pl : List Nat) (wh : List (List Nat)) (off counts : Bool) (left : Int) (i : Nat) (j x : Nat) : St :=
  ⟨(q0 :: .isl 0 1 (byN kp) :: .int .i64 torn :: .int .i64 at' :: .gone 0 :: .gone 0 :: .gone 0 :: .gone 0 :: .int .i64 i :: .int .i64 j :: .int .i64 x :: .gone 0 :: q0 :: q0 :: .ptr (.obj 0 2) :: .srf (.obj 0 2) 0 1 0 pl.length :: .int .i64 pl.length :: .int .i64 i :: .gone 0 :: .int .i64 i :: .ptr (.elem (.obj 0 2) 0 1 i 0) :: .int .i64 j :: .gone 0 :: .gone 0 :: .gone 0 :: .gone 0 :: .gone 0 :: .gone 0 :: .gone 0 :: .gone 0 :: .gone 0 :: .gone 0 :: .gone 0 :: .gone 0 :: .gone 0 :: .gone 0 :: .gone 0 :: .gone 0 :: .gone 0 :: .gone 0 :: .gone 0 :: .gone 0 :: .gone 0 :: .gone 0 :: .gone 0 :: .gone 0 :: .gone 0 :: .gone 0 :: .gone 0 :: .gone 0 :: .gone 0 :: .gone 0 :: .gone 0 :: .gone 0 :: .gone 0 :: .gone 0 :: .gone 0 :: .gone 0 :: .gone 0 :: .gone 0 :: .gone 0 :: .gone 0 :: .gone 0 :: .gone 0 :: .gone 0 :: .gone 0 :: .gone 0 :: .gone 0 :: .gone 0 :: .gone 0 :: .gone 0 :: .gone 0 :: .gone 0 :: .gone 0 :: .gone 0 :: .gone 0 :: .gone 0 :: .gone 0 :: .gone 0 :: .gone 0 :: .gone 0 :: .gone 0 :: .gone 0 :: .gone 0 :: .gone 0 :: .gone 0 :: .gone 0 :: .gone 0 :: .gone 0 :: []), [some (refO su se pl wh off counts left)]⟩
theorem setCells_one {c : List Nat} {x n : Nat} (h : x < c.length) : V.setCells (cellV c) x [.int .u8 (n : Int)] = cellV (c.set x n) := by
  show V.agg (splice (byN c) x [.int .u8 (n : Int)]) = _
  simp only [splice, List.length_cons, List.length_nil, Nat.zero_add, cellV]
  rw [List.set_eq_take_append_cons_drop, if_pos h, byN_app, byN_cons, byN_take, byN_drop]
  simp
theorem byN_one' {c : List Nat} {i : Nat} (h : i < c.length) : List.take 1 (List.drop i (byN c)) = [V.int .u8 ((c.getD i 0 : Nat) : Int)] := by
  rw [List.drop_eq_getElem_cons (by rw [byN_len]; exact h)]
  simp [byN, h]
section
variable (G : VProg)
theorem rf_in (kp : List Nat) (torn at' : Int) (su se pl wh off counts left) (i j x : Nat) (hx : x < 64) (hi : i < pl.length) (hwl : wh.length = pl.length) (hn : pl.length < 2 ^ 30) (hj : j < su.length) (hso : su[j].length = 64) (hwo : ∀ h : i < wh.length, wh[i].length = 64)
    (b1 b2 b3 b4 : Bool) (hb1 : decide ((((i / 8 : Nat) : Int)) < (kp.length : Int)) = b1) (hb2 : b1 = true → bitR (kp.getD (i / 8) 0) (i % 8) = b2) (hb3 : ((i : Int) == torn) = b3) (hb4 : decide ((x : Int) < at') = b4)
    (Q : Out → St → Prop) (J : Nat → Prop) (hJ : J (x + 1)) (S : Nat → St) (hS : S (x + 1) = SRi2 kp torn at' (if (if b3 then b4 else b1 && b2) then su.set j (su[j].set x ((wh.getD i []).getD x 0)) else su) se pl wh off counts left i j (x + 1)) :
    WL G 1 inRf (SRi2 kp torn at' su se pl wh off counts left i j x) (Qrnd (some [0, 1, 2, 3, 8, 9, 10, 12, 13, 14, 15, 16, 17, 19, 20, 21]) 1 S J Q) := by
  have hlt : decide ((x : Int) < 64) = true := by simp; omega
  have hinc := inc64 x (by omega)
  have hiw : i < wh.length := by omega
  have hw64 := hwo hiw
  have e1 : wh.getD i [] = wh[i] := by simp [List.getD_eq_getElem?_getD, hiw]
  have hx1 : x < su[j].length := by omega
  have hx2 : x < wh[i].length := by omega
  have hx3 : x + 1 ≤ 64 := by omega
  have hg1 : (wh.map cellV)[i]? = some (cellV wh[i]) := by simp [hiw]
  have hg2 : (su.map cellV)[j]? = some (cellV su[j]) := by simp [hj]
  have hg3 := byN_one' hx2
  have hq' : IntKind.i64.wrap ((i : Int).tdiv 8) = ((i / 8 : Nat) : Int) := by
    rw [Int.tdiv_eq_ediv_of_nonneg (by omega), wrapi64 _ (by omega) (by omega)]; rfl
  have hr : (i : Int).tmod 8 = ((i % 8 : Nat) : Int) := by rw [Int.tmod_eq_emod_of_nonneg (by omega)]; rfl
  have hkp : b1 = true → (byN kp)[i / 8]? = some (.int .u8 ((kp.getD (i / 8) 0 : Nat) : Int)) := by
    intro h
    rw [h] at hb1
    have : i / 8 < kp.length := by have := of_decide_eq_true hb1; omega
    simp [byN, this]
  have hij : (i : Int) < (wh.length : Int) := by omega
  have hji : (j : Int) < (su.length : Int) := by omega
  have e5 : (List.map cellV su).set j ((cellV su[j]).setCells x [.int .u8 ((wh[i].getD x 0 : Nat) : Int)]) = List.map cellV (su.set j (su[j].set x (wh[i].getD x 0))) := by
    rw [setCells_one hx1, ← List.map_set]
  rw [e1] at hS
  unfold bitR at hb2
  clear e1 hwo hn
  cases b1
  all_goals first
    | replace hb2 := hb2 rfl
    | skip
  all_goals first
    | replace hkp := hkp rfl
    | skip
  all_goals cases b2 <;> cases b3 <;> cases b4
  all_goals simp only [Bool.false_and, Bool.and_false, Bool.and_self, Bool.false_eq_true, if_true, if_false] at hS
  all_goals
    unfold SRi2 inRf
    refine runV (And.intro hlt (And.intro hinc (And.intro hso (And.intro hw64 (And.intro hg1 (And.intro hg2 (And.intro hg3 (And.intro hq' (And.intro hr (And.intro hb1 (And.intro hb2 (And.intro hb3 (And.intro hb4 (And.intro hkp Nat.mul_one)))))))))))))) trivial ?_
    (try rw [e5]); refine Qr_n (x + 1) ?_ hJ; rw [hS]; kernel_rfl
end
/-- A cell of which so many bytes are torn already. -/
def pp (mm : Nat) (old new : List Nat) (x : Nat) : List Nat := (tear mm old new).take x ++ old.drop x
theorem pp_len {mm : Nat} {old new : List Nat} (h1 : old.length = 64) (h2 : new.length = 64) {x : Nat} (hx : x ≤ 64) : (pp mm old new x).length = 64 := by
  simp only [pp, List.length_append, List.length_take, List.length_drop, tear_len h1 h2, h1]; omega
theorem tear_get' {n : Nat} {old new : List Nat} (hn : n ≤ 64) (h1 : old.length = 64) (h2 : new.length = 64) (i : Nat) (hi : i < 64) : (tear n old new)[i]? = if i < n then new[i]? else old[i]? := by
  unfold tear
  split
  · rw [List.getElem?_append_left (by simp; omega), List.getElem?_take, if_pos (by assumption)]
  · rw [List.getElem?_append_right (by simp; omega), List.getElem?_drop]
    congr 1
    simp [h2]; omega
theorem pp_get {mm : Nat} {old new : List Nat} (h1 : old.length = 64) (h2 : new.length = 64) {x : Nat} (hx : x ≤ 64) (i : Nat) : (pp mm old new x)[i]? = if i < x then (tear mm old new)[i]? else old[i]? := by
  unfold pp
  have hl : ((tear mm old new).take x).length = x := by simp [tear_len h1 h2]; omega
  split
  · rw [List.getElem?_append_left (by omega), List.getElem?_take, if_pos (by assumption)]
  · rw [List.getElem?_append_right (by omega), List.getElem?_drop, hl]
    congr 1; omega
theorem pp_succ {mm : Nat} {old new : List Nat} (hm : mm ≤ 64) (h1 : old.length = 64) (h2 : new.length = 64) {x : Nat} (hx : x < 64) : (if x < mm then (pp mm old new x).set x (new.getD x 0) else pp mm old new x) = pp mm old new (x + 1) := by
  refine List.ext_getElem? fun i => ?_
  have hl := pp_len (mm := mm) h1 h2 (x := x) (by omega)
  rw [pp_get h1 h2 (by omega)]
  split
  · rename_i hxm
    rw [List.getElem?_set, hl, pp_get h1 h2 (by omega)]
    by_cases he : x = i
    · subst he
      rw [if_pos rfl, if_pos hx, if_pos (by omega), tear_get' hm h1 h2 x hx, if_pos hxm]
      simp [List.getD_eq_getElem?_getD, show x < new.length by omega]
    · rw [if_neg he]
      by_cases hlt : i < x
      · rw [if_pos hlt, if_pos (by omega)]
      · rw [if_neg hlt, if_neg (by omega)]
  · rename_i hxm
    rw [pp_get h1 h2 (by omega)]
    by_cases he : x = i
    · subst he
      rw [if_neg (by omega), if_pos (by omega), tear_get' hm h1 h2 x hx, if_neg hxm]
    · by_cases hlt : i < x
      · rw [if_pos hlt, if_pos (by omega)]
      · rw [if_neg hlt, if_neg (by omega)]
theorem bit_same : ∀ (x : Fin 256) (j : Fin 8), bitR x.1 j.1 = bitP x.1 j.1 := by decide +kernel
section
variable (G : VProg)
abbrev ERi2 (kp : List Nat) (torn at' : Int) (su se : List (List Nat)) (pl : List Nat) (wh : List (List Nat)) (off counts : Bool) (left : Int) (i : Nat) (j : Nat) : St :=
  ⟨(q0 :: .isl 0 1 (byN kp) :: .int .i64 torn :: .int .i64 at' :: .gone 0 :: .gone 0 :: .gone 0 :: .gone 0 :: .int .i64 i :: .int .i64 j :: .int .i64 (64 : Nat) :: .gone 0 :: q0 :: q0 :: .ptr (.obj 0 2) :: .srf (.obj 0 2) 0 1 0 pl.length :: .int .i64 pl.length :: .int .i64 i :: .gone 0 :: .int .i64 i :: .ptr (.elem (.obj 0 2) 0 1 i 0) :: .int .i64 j :: .int .i64 (64 : Nat) :: .bool false :: .gone 0 :: .gone 0 :: .gone 0 :: .gone 0 :: .gone 0 :: .gone 0 :: .gone 0 :: .gone 0 :: .gone 0 :: .gone 0 :: .gone 0 :: .gone 0 :: .gone 0 :: .gone 0 :: .gone 0 :: .gone 0 :: .gone 0 :: .gone 0 :: .gone 0 :: .gone 0 :: .gone 0 :: .gone 0 :: .gone 0 :: .gone 0 :: .gone 0 :: .gone 0 :: .gone 0 :: .gone 0 :: .gone 0 :: .gone 0 :: .gone 0 :: .gone 0 :: .gone 0 :: .gone 0 :: .gone 0 :: .gone 0 :: .gone 0 :: .gone 0 :: .gone 0 :: .gone 0 :: .gone 0 :: .gone 0 :: .gone 0 :: .gone 0 :: .gone 0 :: .gone 0 :: .gone 0 :: .gone 0 :: .gone 0 :: .gone 0 :: .gone 0 :: .gone 0 :: .gone 0 :: .gone 0 :: .gone 0 :: .gone 0 :: .gone 0 :: .gone 0 :: .gone 0 :: .gone 0 :: .gone 0 :: .gone 0 :: .gone 0 :: .gone 0 :: .gone 0 :: []), [some (refO su se pl wh off counts left)]⟩
theorem rf_loop (kp : List Nat) (hkb : ∀ x ∈ kp, x < 256) (torn at' : Int) (su se pl wh off counts left) (i j : Nat) (hi : i < pl.length) (hwl : wh.length = pl.length) (hn : pl.length < 2 ^ 30) (hj : j < su.length) (hso : su[j].length = 64) (hwo : ∀ h : i < wh.length, wh[i].length = 64) (σ : St)
    (hs : rebase? (some [0, 1, 2, 3, 8, 9, 10, 12, 13, 14, 15, 16, 17, 19, 20, 21]) 1 σ = SRi2 kp torn at' su se pl wh off counts left i j 0) (Q : Out → St → Prop) (hq : Q (.exit 2) (ERi2 kp torn at' (su.set j (tear (many kp torn at' i) su[j] (wh.getD i []))) se pl wh off counts left i j)) :
    WL G 1 (.loop (some [0, 1, 2, 3, 8, 9, 10, 12, 13, 14, 15, 16, 17, 19, 20, 21]) inRf) σ Q := by
  have hiw : i < wh.length := by omega
  have e1 : wh.getD i [] = wh[i] := by simp [List.getD_eq_getElem?_getD, hiw]
  have hw64 := hwo hiw
  have hmm : many kp torn at' i ≤ 64 := by unfold many cut; split <;> (try split) <;> omega
  have h0 : pp (many kp torn at' i) su[j] wh[i] 0 = su[j] := by simp [pp]
  refine WL_loop (fun x => SRi2 kp torn at' (su.set j (pp (many kp torn at' i) su[j] wh[i] x)) se pl wh off counts left i j x) (fun x => x ≤ 64) (fun x => 64 - x) (fun x hx => ?_) 0 σ (by omega) (by rw [hs, h0, List.set_getElem_self])
  by_cases hl : x < 64
  · have hpl := pp_len (mm := many kp torn at' i) hso hw64 (x := x) (by omega)
    refine rf_in G kp torn at' _ se pl wh off counts left i j x hl hi hwl hn (by simpa using hj) (by simpa using hpl) hwo _ _ _ _ rfl (fun _ => rfl) rfl rfl Q _ ⟨by omega, by omega⟩ _ ?_
    rw [← pp_succ hmm hso hw64 hl, e1]
    have hc : (if ((i : Int) == torn) = true then decide ((x : Int) < at') else decide (((i / 8 : Nat) : Int) < (kp.length : Int)) && bitR (kp.getD (i / 8) 0) (i % 8)) = decide (x < many kp torn at' i) := by
      unfold many
      rw [byN_len]
      split
      · unfold cut; rw [decide_eq_decide]; omega
      · have hb : bitR (kp.getD (i / 8) 0) (i % 8) = bitP (kp.getD (i / 8) 0) (i % 8) := by
          by_cases hk : i / 8 < kp.length
          · have : kp.getD (i / 8) 0 < 256 := by simp only [List.getD_eq_getElem?_getD, List.getElem?_eq_getElem hk, Option.getD_some]; exact hkb _ (List.getElem_mem _)
            exact bit_same ⟨_, this⟩ ⟨i % 8, Nat.mod_lt _ (by omega)⟩
          · have : kp.getD (i / 8) 0 = 0 := by simp [List.getD_eq_getElem?_getD, List.getElem?_eq_none (show kp.length ≤ i / 8 by omega)]
            rw [this]
            exact bit_same ⟨0, by omega⟩ ⟨i % 8, Nat.mod_lt _ (by omega)⟩
        rw [hb]
        split
        · rename_i h; rw [h]; simp [hl]
        · rename_i h; rw [Bool.not_eq_true] at h; rw [h]; simp
    rw [hc]
    by_cases hxm : x < many kp torn at' i
    · simp only [hxm, decide_true, if_true, List.set_set, List.getElem_set_self]
    · simp only [hxm, decide_false, Bool.false_eq_true, if_false]
  · obtain rfl : x = 64 := by omega
    have hlt : decide (((64 : Nat) : Int) < 64) = false := by decide
    have h64 : pp (many kp torn at' i) su[j] wh[i] 64 = tear (many kp torn at' i) su[j] (wh.getD i []) := by
      rw [e1, pp, List.take_of_length_le (by rw [tear_len hso hw64]; omega), List.drop_of_length_le (by omega), List.append_nil]
    rw [h64]
    unfold SRi2 inRf
    refine runV hlt trivial ?_
    exact Qr_x hq
end
def SRf (kp : List Nat) (torn at' : Int) (su se : List (List Nat)) (pl : List Nat) (wh : List (List Nat)) (off counts : Bool) (left : Int) (i : Nat) : St :=
  ⟨(q0 :: .isl 0 1 (byN kp) :: .int .i64 torn :: .int .i64 at' :: .gone 0 :: .gone 0 :: .gone 0 :: .gone 0 :: .gone 0 :: .gone 0 :: .gone 0 :: .gone 0 :: q0 :: q0 :: .ptr (.obj 0 2) :: .srf (.obj 0 2) 0 1 0 pl.length :: .int .i64 pl.length :: .int .i64 i :: .gone 0 :: .gone 0 :: .gone 0 :: .gone 0 :: .gone 0 :: .gone 0 :: .gone 0 :: .gone 0 :: .gone 0 :: .gone 0 :: .gone 0 :: .gone 0 :: .gone 0 :: .gone 0 :: .gone 0 :: .gone 0 :: .gone 0 :: .gone 0 :: .gone 0 :: .gone 0 :: .gone 0 :: .gone 0 :: .gone 0 :: .gone 0 :: .gone 0 :: .gone 0 :: .gone 0 :: .gone 0 :: .gone 0 :: .gone 0 :: .gone 0 :: .gone 0 :: .gone 0 :: .gone 0 :: .gone 0 :: .gone 0 :: .gone 0 :: .gone 0 :: .gone 0 :: .gone 0 :: .gone 0 :: .gone 0 :: .gone 0 :: .gone 0 :: .gone 0 :: .gone 0 :: .gone 0 :: .gone 0 :: .gone 0 :: .gone 0 :: .gone 0 :: .gone 0 :: .gone 0 :: .gone 0 :: .gone 0 :: .gone 0 :: .gone 0 :: .gone 0 :: .gone 0 :: .gone 0 :: .gone 0 :: .gone 0 :: .gone 0 :: .gone 0 :: .gone 0 :: .gone 0 :: .gone 0 :: .gone 0 :: .gone 0 :: .gone 0 :: .gone 0 :: []), [some (refO su se pl wh off counts left)]⟩
section
variable (G : VProg)
theorem rf_round (kp : List Nat) (hkb : ∀ x ∈ kp, x < 256) (torn at' : Int) (su se pl wh off counts left) (i : Nat) (hi : i < pl.length) (hwl : wh.length = pl.length) (hn : pl.length < 2 ^ 30) (hj : pl[i] < su.length) (hso : su[pl[i]].length = 64) (hwo : ∀ h : i < wh.length, wh[i].length = 64) 
    (Q : Out → St → Prop) (J : Nat → Prop) (hJ : J (i + 1)) (S : Nat → St) (hS : S (i + 1) = SRf kp torn at' (su.set pl[i] (tear (many kp torn at' i) su[pl[i]] (wh.getD i []))) se pl wh off counts left (i + 1)) :
    WL G 1 bodyRf (SRf kp torn at' su se pl wh off counts left i) (Qrnd (some [0, 1, 2, 3, 12, 13, 14, 15, 16, 17]) 1 S J Q) := by
  have hlt : decide ((i : Int) < (pl.length : Int)) = true := by simp; omega
  have hinc := inc64 i (by omega)
  have hil : (i : Int) < (pl.length : Int) := by omega
  have hg1 : (plV pl)[i]? = some (.int .i64 ((pl[i] : Nat) : Int)) := by simp [hi]
  have hl := rf_loop G kp hkb torn at' su se pl wh off counts left i pl[i] hi hwl hn hj hso hwo
  obtain ⟨j, hjd⟩ : ∃ j, j = pl[i] := ⟨_, rfl⟩
  obtain ⟨su', hsu⟩ : ∃ s, s = su.set pl[i] (tear (many kp torn at' i) su[pl[i]] (wh.getD i [])) := ⟨_, rfl⟩
  rw [← hsu] at hS hl
  rw [← hjd] at hg1 hl
  clear hso hwo hsu
  unfold SRf bodyRf
  refine runV (And.intro hlt (And.intro hinc hg1)) trivial ?_
  refine hl _ (by kernel_rfl) _ ?_
  refine Qb_x (σ1 := ⟨(q0 :: .isl 0 1 (byN kp) :: .int .i64 torn :: .int .i64 at' :: .gone 0 :: .gone 0 :: .gone 0 :: .gone 0 :: .gone 0 :: .gone 0 :: .gone 0 :: .gone 0 :: q0 :: q0 :: .ptr (.obj 0 2) :: .srf (.obj 0 2) 0 1 0 pl.length :: .int .i64 pl.length :: .int .i64 i :: .gone 0 :: .gone 0 :: .gone 0 :: .gone 0 :: .gone 0 :: .gone 0 :: .gone 0 :: .gone 0 :: .gone 0 :: .gone 0 :: .gone 0 :: .gone 0 :: .gone 0 :: .gone 0 :: .gone 0 :: .gone 0 :: .gone 0 :: .gone 0 :: .gone 0 :: .gone 0 :: .gone 0 :: .gone 0 :: .gone 0 :: .gone 0 :: .gone 0 :: .gone 0 :: .gone 0 :: .gone 0 :: .gone 0 :: .gone 0 :: .gone 0 :: .gone 0 :: .gone 0 :: .gone 0 :: .gone 0 :: .gone 0 :: .gone 0 :: .gone 0 :: .gone 0 :: .gone 0 :: .gone 0 :: .gone 0 :: .gone 0 :: .gone 0 :: .gone 0 :: .gone 0 :: .gone 0 :: .gone 0 :: .gone 0 :: .gone 0 :: .gone 0 :: .gone 0 :: .gone 0 :: .gone 0 :: .gone 0 :: .gone 0 :: .gone 0 :: .gone 0 :: .gone 0 :: .gone 0 :: .gone 0 :: .gone 0 :: .gone 0 :: .gone 0 :: .gone 0 :: .gone 0 :: .gone 0 :: .gone 0 :: .gone 0 :: .gone 0 :: .gone 0 :: []), [some (refO su' se pl wh off counts left)]⟩) (by kernel_rfl) ?_
  refine Qb_n (σ1 := ⟨(q0 :: .isl 0 1 (byN kp) :: .int .i64 torn :: .int .i64 at' :: .gone 0 :: .gone 0 :: .gone 0 :: .gone 0 :: .gone 0 :: .gone 0 :: .gone 0 :: .gone 0 :: q0 :: q0 :: .ptr (.obj 0 2) :: .srf (.obj 0 2) 0 1 0 pl.length :: .int .i64 pl.length :: .int .i64 i :: .gone 0 :: .gone 0 :: .gone 0 :: .gone 0 :: .gone 0 :: .gone 0 :: .gone 0 :: .gone 0 :: .gone 0 :: .gone 0 :: .gone 0 :: .gone 0 :: .gone 0 :: .gone 0 :: .gone 0 :: .gone 0 :: .gone 0 :: .gone 0 :: .gone 0 :: .gone 0 :: .gone 0 :: .gone 0 :: .gone 0 :: .gone 0 :: .gone 0 :: .gone 0 :: .gone 0 :: .gone 0 :: .gone 0 :: .gone 0 :: .gone 0 :: .gone 0 :: .gone 0 :: .gone 0 :: .gone 0 :: .gone 0 :: .gone 0 :: .gone 0 :: .gone 0 :: .gone 0 :: .gone 0 :: .gone 0 :: .gone 0 :: .gone 0 :: .gone 0 :: .gone 0 :: .gone 0 :: .gone 0 :: .gone 0 :: .gone 0 :: .gone 0 :: .gone 0 :: .gone 0 :: .gone 0 :: .gone 0 :: .gone 0 :: .gone 0 :: .gone 0 :: .gone 0 :: .gone 0 :: .gone 0 :: .gone 0 :: .gone 0 :: .gone 0 :: .gone 0 :: .gone 0 :: .gone 0 :: .gone 0 :: .gone 0 :: .gone 0 :: .gone 0 :: []), [some (refO su' se pl wh off counts left)]⟩) (by kernel_rfl) ?_
  refine runV hinc trivial ?_
  refine Qr_n (i + 1) ?_ hJ
  rw [hS]
  kernel_rfl
abbrev ERf (kp : List Nat) (torn at' : Int) (su se : List (List Nat)) (pl : List Nat) (wh : List (List Nat)) (off counts : Bool) (left : Int) : St :=
  ⟨(q0 :: .isl 0 1 (byN kp) :: .int .i64 torn :: .int .i64 at' :: .gone 0 :: .gone 0 :: .gone 0 :: .gone 0 :: .gone 0 :: .gone 0 :: .gone 0 :: .gone 0 :: q0 :: q0 :: .ptr (.obj 0 2) :: .srf (.obj 0 2) 0 1 0 pl.length :: .int .i64 pl.length :: .int .i64 pl.length :: .bool false :: .gone 0 :: .gone 0 :: .gone 0 :: .gone 0 :: .gone 0 :: .gone 0 :: .gone 0 :: .gone 0 :: .gone 0 :: .gone 0 :: .gone 0 :: .gone 0 :: .gone 0 :: .gone 0 :: .gone 0 :: .gone 0 :: .gone 0 :: .gone 0 :: .gone 0 :: .gone 0 :: .gone 0 :: .gone 0 :: .gone 0 :: .gone 0 :: .gone 0 :: .gone 0 :: .gone 0 :: .gone 0 :: .gone 0 :: .gone 0 :: .gone 0 :: .gone 0 :: .gone 0 :: .gone 0 :: .gone 0 :: .gone 0 :: .gone 0 :: .gone 0 :: .gone 0 :: .gone 0 :: .gone 0 :: .gone 0 :: .gone 0 :: .gone 0 :: .gone 0 :: .gone 0 :: .gone 0 :: .gone 0 :: .gone 0 :: .gone 0 :: .gone 0 :: .gone 0 :: .gone 0 :: .gone 0 :: .gone 0 :: .gone 0 :: .gone 0 :: .gone 0 :: .gone 0 :: .gone 0 :: .gone 0 :: .gone 0 :: .gone 0 :: .gone 0 :: .gone 0 :: .gone 0 :: .gone 0 :: .gone 0 :: .gone 0 :: .gone 0 :: []), [some (refO su se pl wh off counts left)]⟩
theorem rf_all (kp : List Nat) (hkb : ∀ x ∈ kp, x < 256) (torn at' : Int) (es se) (ls : List (Nat × List Nat)) (off counts left) (he : ∀ c ∈ es, c.length = 64) (hl : ∀ w ∈ ls, w.1 < es.length ∧ w.2.length = 64) (hn : ls.length < 2 ^ 30) (σ : St)
    (hs : rebase? (some [0, 1, 2, 3, 12, 13, 14, 15, 16, 17]) 1 σ = SRf kp torn at' es se (ls.map (·.1)) (ls.map (·.2)) off counts left 0) (Q : Out → St → Prop)
    (hq : Q (.exit 0) (ERf kp torn at' (flA kp torn at' es ls ls.length) se (ls.map (·.1)) (ls.map (·.2)) off counts left)) :
    WL G 1 (.loop (some [0, 1, 2, 3, 12, 13, 14, 15, 16, 17]) bodyRf) σ Q := by
  refine WL_loop (fun i => SRf kp torn at' (flA kp torn at' es ls i) se (ls.map (·.1)) (ls.map (·.2)) off counts left i) (fun i => i ≤ ls.length) (fun i => ls.length - i) (fun i hi => ?_) 0 σ (Nat.zero_le _) hs
  by_cases h : i < ls.length
  · have hw := hl ls[i] (List.getElem_mem _)
    have h64 := flA_64 (kp := kp) (torn := torn) (at' := at') he hl i
    have hlt : ls[i].1 < (flA kp torn at' es ls i).length := by rw [flA_len]; exact hw.1
    refine rf_round G kp hkb torn at' _ se _ _ off counts left i (by simpa using h) (by simp) (by simpa using hn) (by simpa using hlt) (by simpa using h64 _ (List.getElem_mem hlt)) (fun h' => by simpa using hw.2) Q _ ⟨by omega, by omega⟩ _ ?_
    simp only [flA, List.getElem?_eq_getElem h, List.getElem_map, getElem!_pos (flA kp torn at' es ls i) ls[i].1 hlt]
    congr 3
    simp [List.getD_eq_getElem?_getD, h]
  · obtain rfl : i = ls.length := by omega
    have hlt : decide ((ls.length : Int) < ((ls.map (·.1)).length : Int)) = false := by simp
    unfold SRf bodyRf
    rw [List.length_map] at hlt
    refine runV hlt trivial ?_
    refine Qr_x ?_
    simp only [ERf, List.length_map] at hq
    exact hq
theorem rfail (hG : G 24 = some (.code v24)) (kp : List Nat) (hkb : ∀ x ∈ kp, x < 256) (torn at' : Int) (es ls off left lj) (he : ∀ c ∈ es, c.length = 64) (hl : ∀ w ∈ ls, w.1 < es.length ∧ w.2.length = 64) (hn : ls.length < 2 ^ 30) (hb : es.length < 2 ^ 30) :
    lim G 24 [q0, .isl 0 1 (byN kp), .int .i64 torn, .int .i64 at'] [refP es ls off left lj] = some (.tup [], [refP (flA kp torn at' es ls ls.length) [] false (-1) (if 0 ≤ left then left else lj)]) := by
  obtain ⟨e1, he1⟩ : ∃ e1, e1 = flA kp torn at' es ls ls.length := ⟨_, rfl⟩
  have hlen : e1.length = es.length := by rw [he1, flA_len]
  have hb2 : e1.length * 64 ≤ 140737488355328 := by omega
  have hl30 := rf_all G kp hkb torn at' es (ls.foldl wr es) ls off (decide (0 ≤ left)) (if 0 ≤ left then left else lj) he hl hn
  rw [← he1] at hl30 ⊢
  simp only [SRf, ERf, List.length_map] at hl30
  refine lim_fun hG (h := runV trivial trivial ?_)
  refine hl30 _ (by kernel_rfl) _ ?_
  refine Qb_x (σ1 := ⟨(q0 :: .gone 0 :: .gone 0 :: .gone 0 :: .gone 0 :: .gone 0 :: .gone 0 :: .gone 0 :: .gone 0 :: .gone 0 :: .gone 0 :: .gone 0 :: .gone 0 :: .gone 0 :: .gone 0 :: .gone 0 :: .gone 0 :: .gone 0 :: .gone 0 :: .gone 0 :: .gone 0 :: .gone 0 :: .gone 0 :: .gone 0 :: .gone 0 :: .gone 0 :: .gone 0 :: .gone 0 :: .gone 0 :: .gone 0 :: .gone 0 :: .gone 0 :: .gone 0 :: .gone 0 :: .gone 0 :: .gone 0 :: .gone 0 :: .gone 0 :: .gone 0 :: .gone 0 :: .gone 0 :: .gone 0 :: .gone 0 :: .gone 0 :: .gone 0 :: .gone 0 :: .gone 0 :: .gone 0 :: .gone 0 :: .gone 0 :: .gone 0 :: .gone 0 :: .gone 0 :: .gone 0 :: .gone 0 :: .gone 0 :: .gone 0 :: .gone 0 :: .gone 0 :: .gone 0 :: .gone 0 :: .gone 0 :: .gone 0 :: .gone 0 :: .gone 0 :: .gone 0 :: .gone 0 :: .gone 0 :: .gone 0 :: .gone 0 :: .gone 0 :: .gone 0 :: .gone 0 :: .gone 0 :: .gone 0 :: .gone 0 :: .gone 0 :: .gone 0 :: .gone 0 :: .gone 0 :: .gone 0 :: .gone 0 :: .gone 0 :: .gone 0 :: .gone 0 :: .gone 0 :: .gone 0 :: .gone 0 :: .gone 0 :: []), [some (refO e1 (ls.foldl wr es) (ls.map (·.1)) (ls.map (·.2)) off (decide (0 ≤ left)) (if 0 ≤ left then left else lj))]⟩) (by kernel_rfl) ?_
  have ht : List.take e1.length (e1.map cellV) = e1.map cellV := List.take_of_length_le (by simp)
  exact runV ht trivial trivial
end
end P1
end Go.Vq

namespace Go.Vq
namespace P1
open Go
set_option maxRecDepth 1000000
set_option maxHeartbeats 8000000
abbrev b59 : VCode := .seq (.region [⟨some 2, .box 0 64 (.tmp 0), none, 0⟩, ⟨some 4, .assign (.val (.int .u64 0)), none, 0⟩] false) (.seq (.region [⟨some 5, .assign (.val (.int .u64 0)), none, 0⟩, ⟨some 6, .assign (.val (.int .u64 1)), none, 1⟩] false) (.seq (.seq (.region [⟨some 8, .move (.tmp 1), none, 0⟩, ⟨some 7, .assign (.tmp 8), none, 1⟩] false) (.block 0 (some [5]) (.loop (some [1, 2, 5, 6, 7, 8]) (.seq (.seq (.region [⟨some 9, .move (.tmp 7), none, 0⟩, ⟨some 10, .move (.tmp 1), none, 0⟩, ⟨some 11, .bin (.add) (.tmp 10) (.val (.int .i64 8)), none, 2⟩, ⟨some 12, .bin (.lss) (.tmp 9) (.tmp 11), none, 7⟩] false) (.cond (.tmp 12) (.skip) (.exit 0))) (.seq (.block 1 none (.seq (.region [⟨some 15, .move (.tmp 5), none, 0⟩, ⟨some 16, .move (.tmp 7), none, 0⟩, ⟨some 17, .indexAddr (some 64) 1 (.tmp 2) (.tmp 16), none, 2⟩, ⟨some 18, .load false 1 (.tmp 17), none, 6⟩, ⟨some 19, .conv (.int (.u64)) (.tmp 18), none, 14⟩, ⟨some 20, .move (.tmp 6), none, 0⟩, ⟨some 21, .bin (.mul) (.tmp 19) (.tmp 20), none, 62⟩, ⟨some 22, .bin (.add) (.tmp 15) (.tmp 21), none, 127⟩, ⟨some 5, .assign (.tmp 22), none, 255⟩] false) (.region [⟨some 23, .move (.tmp 6), none, 0⟩, ⟨some 24, .bin (.mul) (.tmp 23) (.val (.int .u64 256)), none, 1⟩, ⟨some 6, .assign (.tmp 24), none, 3⟩] false))) (.region [⟨some 13, .move (.tmp 7), none, 0⟩, ⟨some 14, .bin (.add) (.tmp 13) (.val (.int .i64 1)), none, 1⟩, ⟨some 7, .assign (.tmp 14), none, 3⟩] false)))))) (.seq (.region [⟨some 25, .move (.tmp 5), none, 0⟩, ⟨some 4, .assign (.tmp 25), none, 1⟩] false) (.ret))))
abbrev v59 : VFunc := { nparams := 2, ntmps := 26, nsites := 1, results := [.tmp 4], body := b59 }
abbrev b60 : VCode := .seq (.region [⟨some 1, .box 0 64 (.tmp 0), none, 0⟩, ⟨some 2, .assign (.val (.int .u64 0)), none, 0⟩] false) (.seq (.seq (.region [⟨some 3, .load true 64 (.tmp 1), none, 0⟩, ⟨some 4, .call true 59 1 [(.tmp 3), (.val (.int .i64 0))], none, 1⟩, ⟨some 5, .load true 64 (.tmp 1), none, 0⟩, ⟨some 6, .call true 59 1 [(.tmp 5), (.val (.int .i64 56))], none, 7⟩, ⟨some 7, .eq true (.num) (.tmp 4) (.tmp 6), none, 15⟩] true) (.cond (.tmp 7) (.seq (.region [⟨some 2, .assign (.val (.int .u64 0)), none, 0⟩] false) (.ret)) (.skip))) (.seq (.region [⟨some 8, .load true 64 (.tmp 1), none, 0⟩, ⟨some 9, .call true 59 1 [(.tmp 8), (.val (.int .i64 0))], none, 1⟩, ⟨some 2, .assign (.tmp 9), none, 3⟩] false) (.ret)))
abbrev v60 : VFunc := { nparams := 1, ntmps := 10, nsites := 1, results := [.tmp 2], body := b60 }
abbrev b29 : VCode := .seq (.region [⟨some 2, .assign (.val (.int .i64 0)), none, 0⟩] false) (.seq (.region [⟨some 3, .move (.tmp 0), none, 0⟩, ⟨some 4, .nilCheck (.tmp 3), none, 1⟩, ⟨some 5, .fieldAddr 1 (.tmp 4), none, 3⟩, ⟨some 6, .load false 1 (.tmp 5), none, 7⟩, ⟨some 7, .len (.slc 64) (.tmp 6), none, 15⟩, ⟨some 8, .bin (.quo) (.tmp 7) (.val (.int .i64 2)), none, 31⟩, ⟨some 2, .assign (.tmp 8), none, 63⟩] false) (.ret))
abbrev v29 : VFunc := { nparams := 1, ntmps := 9, nsites := 0, results := [.tmp 2], body := b29 }
abbrev b30 : VCode := .seq (.region [⟨some 2, .assign (.val (.int .u64 0)), none, 0⟩] false) (.seq (.region [⟨some 3, .assign (.val (.int .u64 0)), none, 0⟩] false) (.seq (.seq (.region [⟨some 6, .move (.tmp 0), none, 0⟩, ⟨some 7, .nilCheck (.tmp 6), none, 1⟩, ⟨some 8, .fieldAddr 1 (.tmp 7), none, 3⟩, ⟨some 9, .load false 1 (.tmp 8), none, 7⟩, ⟨some 10, .len (.slc 64) (.tmp 9), none, 15⟩, ⟨some 11, .move (.val (.int .i64 0)), none, 0⟩] false) (.block 0 (some [3]) (.loop (some [0, 3, 6, 7, 8, 9, 10, 11]) (.seq (.region [⟨some 12, .bin (.lss) (.tmp 11) (.tmp 10), none, 0⟩] false) (.seq (.cond (.tmp 12) (.skip) (.exit 0)) (.seq (.block 1 none (.seq (.region [⟨some 13, .indexAddr none 64 (.tmp 9) (.tmp 11), none, 0⟩, ⟨some 14, .load true 64 (.tmp 13), none, 1⟩, ⟨some 5, .alloc 0 (Z8 64), none, 0⟩, ⟨none, .store 64 (.tmp 5) (.tmp 14), none, 7⟩] false) (.seq (.region [⟨some 15, .move (.tmp 3), none, 0⟩, ⟨some 16, .load true 64 (.tmp 5), none, 0⟩, ⟨some 17, .call true 59 1 [(.tmp 16), (.val (.int .i64 0))], none, 2⟩, ⟨some 18, .bin (.quo) (.tmp 17) (.val (.int .u64 65536)), none, 6⟩, ⟨some 19, .max [(.tmp 15), (.tmp 18)], none, 15⟩, ⟨some 3, .assign (.tmp 19), none, 31⟩] false) (.region [⟨some 20, .move (.tmp 3), none, 0⟩, ⟨some 21, .load true 64 (.tmp 5), none, 0⟩, ⟨some 22, .call true 59 1 [(.tmp 21), (.val (.int .i64 56))], none, 2⟩, ⟨some 23, .bin (.quo) (.tmp 22) (.val (.int .u64 65536)), none, 6⟩, ⟨some 24, .max [(.tmp 20), (.tmp 23)], none, 15⟩, ⟨some 3, .assign (.tmp 24), none, 31⟩] false)))) (.region [⟨some 25, .bin (.add) (.tmp 11) (.val (.int .i64 1)), none, 0⟩, ⟨some 11, .move (.tmp 25), none, 1⟩] false))))))) (.seq (.region [⟨some 26, .move (.tmp 3), none, 0⟩, ⟨some 2, .assign (.tmp 26), none, 1⟩] false) (.ret))))
abbrev v30 : VFunc := { nparams := 1, ntmps := 27, nsites := 1, results := [.tmp 2], body := b30 }
theorem wrap64m (n : Nat) : IntKind.u64.wrap (n : Int) = ((n % 18446744073709551616 : Nat) : Int) := by simp only [IntKind.wrap, IntKind.bits, IntKind.signed]; simp
theorem leN_snoc : ∀ (l : List Nat) (x : Nat), leN (l ++ [x]) = leN l + x * 256 ^ l.length
  | [], x => by simp [leN]
  | y :: l, x => by
    have := leN_snoc l x
    show leN (l ++ [x]) * 256 + y = leN l * 256 + y + x * 256 ^ (l.length + 1)
    rw [this, Nat.pow_succ, Nat.add_mul]
    have : x * 256 ^ l.length * 256 = x * (256 ^ l.length * 256) := Nat.mul_assoc _ _ _
    omega
def SNb (c : List Nat) (a : Nat) (k : Nat) : St :=
  ⟨(.gone 0 :: .int .i64 a :: .ptr (.obj 0 0) :: .gone 0 :: .gone 0 :: .int .u64 (leN ((c.drop a).take k) : Nat) :: .int .u64 ((256 ^ k % 18446744073709551616 : Nat) : Int) :: .int .i64 ((a + k : Nat) : Int) :: .int .i64 a :: .gone 0 :: .gone 0 :: .gone 0 :: .gone 0 :: .gone 0 :: .gone 0 :: .gone 0 :: .gone 0 :: .gone 0 :: .gone 0 :: .gone 0 :: .gone 0 :: .gone 0 :: .gone 0 :: .gone 0 :: .gone 0 :: .gone 0 :: []), [some (.cells (byN c))]⟩
section
variable (G : VProg)
theorem rnumber (hG : G 59 = some (.code v59)) (c : List Nat) (h : C64 c) (a : Nat) (ha : a + 8 ≤ 64) : lim G 59 [cellV c, .int .i64 a] [] = some (.int .u64 (leN ((c.drop a).take 8) : Nat), []) := by
  obtain ⟨hc, hb⟩ := h
  have a8 : IntKind.i64.wrap ((a : Int) + 8) = ((a + 8 : Nat) : Int) := by rw [wrapi64 _ (by omega) (by omega)]; omega
  refine lim_fun hG (h := runV (cf hc) trivial ?_)
  refine WL_loop (SNb c a) (fun k => k ≤ 8) (fun k => 8 - k) ?_ 0 _ (Nat.zero_le _) ?_
  · intro k hk
    by_cases hk8 : k < 8
    · have hlt : decide (((a + k : Nat) : Int) < ((a + 8 : Nat) : Int)) = true := by simp only [decide_eq_true_eq]; omega
      have hin : a + k < c.length := by omega
      obtain ⟨x, hx⟩ : ∃ x, x = c[a + k] := ⟨_, rfl⟩
      have hx2 : x < 256 := by rw [hx]; exact hb _ (List.getElem_mem _)
      have hg : List.take 1 (List.drop (a + k) (byN c)) = [V.int .u8 (x : Int)] := by
        rw [List.drop_eq_getElem_cons (by rw [byN_len]; exact hin)]
        simp [byN, hx]
      have htk : (c.drop a).take (k + 1) = (c.drop a).take k ++ [x] := by
        rw [List.take_succ_eq_append_getElem (by simp; omega), List.getElem_drop, hx]
      have hlk : ((c.drop a).take k).length = k := by simp; omega
      have hsn := leN_snoc ((c.drop a).take k) x
      rw [← htk, hlk] at hsn
      have hlt2 := leN_lt ((c.drop a).take k) fun y hy => hb y (List.mem_of_mem_drop (List.mem_of_mem_take hy))
      rw [hlk] at hlt2
      have hp : (256 : Nat) ^ (k + 1) ≤ 256 ^ 8 := Nat.pow_le_pow_right (by decide) (by omega)
      have hp2 : (256 : Nat) ^ (k + 1) = 256 ^ k * 256 := Nat.pow_succ ..
      have h8 : (256 : Nat) ^ 8 = 18446744073709551616 := by decide
      obtain ⟨w, hw⟩ : ∃ w, w = 256 ^ k := ⟨_, rfl⟩
      rw [← hw] at hlt2 hp2 hsn
      have hwm : 256 ^ k % 18446744073709551616 = w := by rw [← hw]; exact Nat.mod_eq_of_lt (by omega)
      obtain ⟨n, hn⟩ : ∃ n, n = leN ((c.drop a).take k) := ⟨_, rfl⟩
      obtain ⟨n', hn'⟩ : ∃ n, n = leN ((c.drop a).take (k + 1)) := ⟨_, rfl⟩
      rw [← hn, ← hn'] at hsn
      rw [← hn] at hlt2
      have hxw : x * w ≤ 255 * w := Nat.mul_le_mul_right _ (by omega)
      have w1 : IntKind.u64.wrap (x : Int) = (x : Int) := wrap64 _ (by omega)
      have w2 : IntKind.u64.wrap ((x : Int) * (w : Int)) = ((x * w : Nat) : Int) := by rw [← Int.natCast_mul]; exact wrap64 _ (by omega)
      have w3 : IntKind.u64.wrap ((n : Int) + ((x * w : Nat) : Int)) = (n' : Int) := by rw [hsn, ← Int.natCast_add]; exact wrap64 _ (by omega)
      obtain ⟨w', hw'⟩ : ∃ w', w' = 256 ^ (k + 1) % 18446744073709551616 := ⟨_, rfl⟩
      have w4 : IntKind.u64.wrap ((w : Int) * 256) = (w' : Int) := by
        have : (w : Int) * 256 = ((w * 256 : Nat) : Int) := by omega
        rw [this, wrap64m, hw', hp2]
      have w5 : IntKind.i64.wrap (((a + k : Nat) : Int) + 1) = ((a + k + 1 : Nat) : Int) := inc64 _ (by omega)
      unfold SNb
      rw [hwm, ← hn]
      refine runV (And.intro a8 (And.intro hlt (And.intro hg (And.intro w1 (And.intro w2 (And.intro w3 (And.intro w4 (And.intro w5 (And.intro Nat.mul_one (cf hc)))))))))) trivial ?_
      refine Qr_n (k + 1) ?_ ⟨by omega, by omega⟩
      simp only [← hn', ← hw', Nat.add_assoc]
      clear hn' hn htk hsn hg hx hb
      obtain ⟨g, rfl⟩ := exN hc
      kernel_rfl
    · obtain rfl : k = 8 := by omega
      have hlt : decide (((a + 8 : Nat) : Int) < ((a + 8 : Nat) : Int)) = false := by simp
      obtain ⟨n, hn⟩ : ∃ n, n = leN ((c.drop a).take 8) := ⟨_, rfl⟩
      unfold SNb
      rw [← hn]
      refine runV (And.intro a8 hlt) trivial ?_
      refine Qr_x ?_
      refine Qb_x (σ1 := ⟨(.gone 0 :: .gone 0 :: .gone 0 :: .gone 0 :: .gone 0 :: .int .u64 n :: .gone 0 :: .gone 0 :: .gone 0 :: .gone 0 :: .gone 0 :: .gone 0 :: .gone 0 :: .gone 0 :: .gone 0 :: .gone 0 :: .gone 0 :: .gone 0 :: .gone 0 :: .gone 0 :: .gone 0 :: .gone 0 :: .gone 0 :: .gone 0 :: .gone 0 :: .gone 0 :: []), [none]⟩) ?_ ?_
      · clear hn hb
        obtain ⟨g, rfl⟩ := exN hc
        kernel_rfl
      · exact runV trivial trivial trivial
  · unfold SNb
    obtain ⟨n, hn⟩ : ∃ n, n = leN ((c.drop a).take 0) := ⟨_, rfl⟩
    have hn0 : n = 0 := by rw [hn, List.take_zero]; rfl
    rw [← hn, hn0]
    clear hn hb
    obtain ⟨g, rfl⟩ := exN hc
    show _ = _
    kernel_rfl
theorem rmark (hG : G 60 = some (.code v60)) (hN : ∀ c : List Nat, C64 c → ∀ a : Nat, a + 8 ≤ 64 → lim G 59 [cellV c, .int .i64 a] [] = some (.int .u64 (leN ((c.drop a).take 8) : Nat), []))
    (c : List Nat) (h : C64 c) : lim G 60 [cellV c] [] = some (.int .u64 (markN c : Nat), []) := by
  have g1 : lim G 59 [cellV c, .int .i64 0] [] = some (.int .u64 (endA c : Nat), []) := hN c h 0 (by omega)
  have g2 : lim G 59 [cellV c, .int .i64 56] [] = some (.int .u64 (endB c : Nat), []) := by
    have := hN c h 56 (by omega)
    rw [List.take_of_length_le (by simp [h.1])] at this
    exact this
  obtain ⟨hc, hb⟩ := h
  unfold markN
  obtain ⟨u, hu⟩ : ∃ u, u = endA c := ⟨_, rfl⟩
  obtain ⟨v, hv⟩ : ∃ v, v = endB c := ⟨_, rfl⟩
  rw [← hu] at g1 ⊢
  rw [← hv] at g2 ⊢
  cases e : ((u : Int) == (v : Int))
  · rw [if_neg (by simp at e; omega)]
    exact lim_fun hG (h := runV (And.intro e (cf hc)) trivial trivial)
  · rw [if_pos (by simp at e; omega)]
    exact lim_fun hG (h := runV (And.intro e (cf hc)) trivial trivial)
/-- The document's plate, as it is read. -/
abbrev refI (su se : List (List Nat)) (pl : List Nat) (wh : List (List Nat)) (off counts : Bool) (left : Int) : V := .iptr [.isl 0 64 (su.map cellV), .isl 0 64 (se.map cellV), .isl 0 1 (plV pl), .isl 0 64 (wh.map cellV), .bool off, .bool counts, .int .i64 left]
theorem rroom (hG : G 29 = some (.code v29)) (su se pl wh off counts left) (hn : se.length < 2 ^ 40) : lim G 29 [refI su se pl wh off counts left] [] = some (.int .i64 ((se.length / 2 : Nat) : Int), []) := by
  have hq : IntKind.i64.wrap ((se.length : Int).tdiv 2) = ((se.length / 2 : Nat) : Int) := by
    rw [Int.tdiv_eq_ediv_of_nonneg (by omega), wrapi64 _ (by omega) (by omega)]; rfl
  exact lim_fun hG (h := runV hq trivial trivial)
end
end P1
end Go.Vq

namespace Go.Vq
namespace P1
open Go
set_option maxRecDepth 1000000
set_option maxHeartbeats 8000000
/-- What stands at a place, by the writes one after the other. -/
theorem getC_fold (es : List (List Nat)) (ls : List (Nat × List Nat)) (hl : ∀ w ∈ ls, w.1 < es.length) (i : Int) : getC es ls i = if inR i es.length then (ls.foldl wr es).getD i.toNat zero64 else zero64 := by
  unfold getC
  split
  · rename_i h
    obtain ⟨k, rfl⟩ : ∃ k : Nat, i = k := ⟨i.toNat, by simp [inR] at h; omega⟩
    have hk : k < es.length := by simp [inR] at h; omega
    clear h
    simp only [Int.toNat_natCast]
    have key : ∀ (rs : List (Nat × List Nat)), (∀ w ∈ rs, w.1 < es.length) → (find rs.reverse k).getD (es.getD k zero64) = (rs.reverse.foldl wr es).getD k zero64 := by
      intro rs hr
      induction rs with
      | nil => rfl
      | cons w rs ih =>
        have ih := ih fun w hw => hr w (List.mem_cons_of_mem _ hw)
        have hw := hr w List.mem_cons_self
        rw [List.reverse_cons, List.foldl_append, List.foldl_cons, List.foldl_nil]
        unfold find at ih ⊢
        rw [List.reverse_append, List.reverse_cons, List.reverse_nil, List.nil_append, List.cons_append, List.nil_append, List.find?_cons]
        have hlen := foldl_wr_len es rs.reverse
        by_cases hwk : w.1 = k
        · rw [show decide ((w.1 : Int) = (k : Int)) = true by simp; omega]
          simp only [Option.map_some, Option.getD_some, wr, hwk, List.getD_eq_getElem?_getD]
          rw [List.getElem?_set_self (by rw [hlen]; exact hk)]; rfl
        · rw [show decide ((w.1 : Int) = (k : Int)) = false by simp; omega]
          simp only [wr, List.getD_eq_getElem?_getD] at ih ⊢
          rw [List.getElem?_set_ne hwk]
          exact ih
    have := key ls.reverse (fun w hw => hl w (List.mem_reverse.1 hw))
    rwa [List.reverse_reverse] at this
  · rfl
theorem seen_at {es : List (List Nat)} {ls : List (Nat × List Nat)} (hl : ∀ w ∈ ls, w.1 < es.length) (i : Nat) (hi : i < es.length) : ∃ h : i < (ls.foldl wr es).length, (ls.foldl wr es)[i] = getC es ls (i : Int) := by
  have hlen := foldl_wr_len es ls
  refine ⟨by omega, ?_⟩
  rw [getC_fold es ls hl, if_pos (by simp [inR]; omega)]
  simp [List.getD_eq_getElem?_getD, show i < (ls.foldl wr es).length by omega]
def SRt (es se : List (List Nat)) (ls : List (Nat × List Nat)) (off counts : Bool) (left : Int) (i : Nat) : St :=
  ⟨(q0 :: .gone 0 :: .gone 0 :: .int .u64 (topN es ls i : Nat) :: .gone 0 :: .gone 0 :: q0 :: q0 :: .ptr (.obj 0 1) :: .srf (.obj 0 1) 0 64 0 es.length :: .int .i64 es.length :: .int .i64 i :: .gone 0 :: .gone 0 :: .gone 0 :: .gone 0 :: .gone 0 :: .gone 0 :: .gone 0 :: .gone 0 :: .gone 0 :: .gone 0 :: .gone 0 :: .gone 0 :: .gone 0 :: .gone 0 :: .gone 0 :: []), [some (refO es se (ls.map (·.1)) (ls.map (·.2)) off counts left), none]⟩
section
variable (G : VProg)
theorem rtop (hG : G 30 = some (.code v30)) (hN : ∀ c : List Nat, C64 c → ∀ a : Nat, a + 8 ≤ 64 → lim G 59 [cellV c, .int .i64 a] [] = some (.int .u64 (leN ((c.drop a).take 8) : Nat), []))
    (es ls off left lj) (h : PW es ls) : lim G 30 [q0] [refP es ls off left lj] = some (.int .u64 (topN es ls es.length : Nat), [refP es ls off left lj]) := by
  have hlen := foldl_wr_len es ls
  have hn := h.n
  have hse := seen_at (es := es) (ls := ls) (fun w hw => (h.w w hw).1)
  obtain ⟨se, hsd⟩ : ∃ se, se = ls.foldl wr es := ⟨_, rfl⟩
  simp only [refP]
  rw [← hsd] at hlen
  simp only [← hsd] at hse
  rw [← hsd]
  refine lim_fun hG (h := runV hlen trivial ?_)
  refine WL_loop (SRt es se ls off (decide (0 ≤ left)) (if 0 ≤ left then left else lj)) (fun i => i ≤ es.length) (fun i => es.length - i) ?_ 0 _ (Nat.zero_le _) (by kernel_rfl)
  intro i hi
  by_cases hlt : i < es.length
  · have c1 : decide ((i : Int) < (es.length : Int)) = true := by simp; omega
    have c2 := inc64 i (by omega)
    have hC := getC_C h (i : Int)
    have g1 : lim G 59 [cellV (getC es ls (i : Int)), .int .i64 0] [] = some (.int .u64 (endA (getC es ls (i : Int)) : Nat), []) := hN _ hC 0 (by omega)
    have g2 : lim G 59 [cellV (getC es ls (i : Int)), .int .i64 56] [] = some (.int .u64 (endB (getC es ls (i : Int)) : Nat), []) := by
      have := hN _ hC 56 (by omega)
      rw [List.take_of_length_le (by simp [hC.1])] at this
      exact this
    obtain ⟨hi2, hg0⟩ := hse i hlt
    have hl := hC.1
    have hA := endA_lt hC
    have hB := endB_lt hC
    have hT : topN es ls (i + 1) = max (topN es ls i) (max (endA (getC es ls i) / 65536) (endB (getC es ls i) / 65536)) := rfl
    obtain ⟨c, hcd⟩ : ∃ c, c = getC es ls (i : Int) := ⟨_, rfl⟩
    rw [← hcd] at g1 g2 hl hg0 hA hB hT
    have hg : (se.map cellV)[i]? = some (cellV c) := by rw [← hg0]; simp [hi2]
    obtain ⟨u, hu⟩ : ∃ u, u = topN es ls i := ⟨_, rfl⟩
    obtain ⟨v, hv⟩ : ∃ v, v = endA c := ⟨_, rfl⟩
    obtain ⟨w, hw⟩ : ∃ w, w = endB c := ⟨_, rfl⟩
    rw [← hv] at g1 hA hT
    rw [← hw] at g2 hB hT
    rw [← hu] at hT
    obtain ⟨p, hp⟩ : ∃ p, p = v / 65536 := ⟨_, rfl⟩
    obtain ⟨q, hq⟩ : ∃ q, q = w / 65536 := ⟨_, rfl⟩
    have s1 : IntKind.u64.wrap ((v : Int).tdiv 65536) = (p : Int) := by
      rw [Int.tdiv_eq_ediv_of_nonneg (by omega), hp]; exact wrap64 (v / 65536) (by omega)
    have s2 : IntKind.u64.wrap ((w : Int).tdiv 65536) = (q : Int) := by
      rw [Int.tdiv_eq_ediv_of_nonneg (by omega), hq]; exact wrap64 (w / 65536) (by omega)
    rw [← hp, ← hq] at hT
    obtain ⟨y, hy⟩ : ∃ y, y = max u p := ⟨_, rfl⟩
    obtain ⟨z, hz⟩ : ∃ z, z = max u (max p q) := ⟨_, rfl⟩
    rw [← hz] at hT
    have s3 : (if (u : Int) < (p : Int) then (p : Int) else (u : Int)) = (y : Int) := by rw [hy]; split <;> omega
    have s4 : (if (y : Int) < (q : Int) then (q : Int) else (y : Int)) = (z : Int) := by rw [hz]; split <;> omega
    unfold SRt
    rw [← hu]
    refine runV (And.intro c1 (And.intro c2 (And.intro hg (And.intro s1 (And.intro s2 (And.intro s3 (And.intro s4 (And.intro hlen (cf hl))))))))) trivial ?_
    exact Qr_n (i + 1) (by simp only [hT]; kernel_rfl) ⟨by omega, by omega⟩
  · obtain rfl : i = es.length := by omega
    have c1 : decide ((es.length : Int) < (es.length : Int)) = false := by simp
    obtain ⟨z, hz⟩ : ∃ z, z = topN es ls es.length := ⟨_, rfl⟩
    unfold SRt
    rw [← hz]
    refine runV c1 trivial ?_
    refine Qr_x ?_
    refine Qb_x (σ1 := ⟨(.gone 0 :: .gone 0 :: .gone 0 :: .int .u64 z :: .gone 0 :: .gone 0 :: .gone 0 :: .gone 0 :: .gone 0 :: .gone 0 :: .gone 0 :: .gone 0 :: .gone 0 :: .gone 0 :: .gone 0 :: .gone 0 :: .gone 0 :: .gone 0 :: .gone 0 :: .gone 0 :: .gone 0 :: .gone 0 :: .gone 0 :: .gone 0 :: .gone 0 :: .gone 0 :: .gone 0 :: []), [some (refO es se (ls.map (·.1)) (ls.map (·.2)) off (decide (0 ≤ left)) (if 0 ≤ left then left else lj)), none]⟩) (by kernel_rfl) ?_
    exact runV trivial trivial trivial
end
end P1
end Go.Vq

