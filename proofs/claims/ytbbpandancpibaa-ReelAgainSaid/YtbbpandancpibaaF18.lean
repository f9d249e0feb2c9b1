/- A machine of values and its tie to the model, and runs of it: part 18 of 18 (no law of Go is stated here). -/
import Derived.Test.YtbbpandancpibaaF17
set_option linter.unusedVariables false
set_option linter.unusedSimpArgs false
set_option linter.unusedSectionVars false
namespace Go.Vq
namespace P1
open Go
set_option maxRecDepth 1000000
set_option maxHeartbeats 8000000
abbrev b73 : VCode := .seq (.region [⟨some 4, .assign (.val (.nilS 1)), none, 0⟩] false) (.seq (.region [⟨some 8, .move (.tmp 0), none, 0⟩, ⟨some 9, .call true 51 0 [(.tmp 8)], none, 1⟩, ⟨some 5, .assign (.tmp 9), none, 3⟩] false) (.seq (.seq (.region [⟨some 10, .move (.tmp 1), none, 0⟩, ⟨some 11, .len (.slc 1) (.tmp 10), none, 1⟩, ⟨some 12, .move (.val (.int .i64 0)), none, 0⟩] false) (.block 0 (some [5]) (.loop (some [1, 5, 10, 11, 12]) (.seq (.region [⟨some 13, .bin (.lss) (.tmp 12) (.tmp 11), none, 0⟩] false) (.seq (.cond (.tmp 13) (.skip) (.exit 0)) (.seq (.block 1 (some [1, 5, 10, 11, 12]) (.seq (.region [⟨some 14, .indexAddr none 1 (.tmp 10) (.tmp 12), none, 0⟩, ⟨some 15, .load false 1 (.tmp 14), none, 1⟩, ⟨some 7, .assign (.tmp 15), none, 3⟩] false) (.seq (.block 2 (some [1, 5, 7, 10, 11, 12, 14, 15]) (.loop (some [1, 5, 7, 10, 11, 12, 14, 15]) (.seq (.seq (.region [⟨some 16, .move (.tmp 7), none, 0⟩, ⟨some 17, .bin (.geq) (.tmp 16) (.val (.int .u64 128)), none, 1⟩] false) (.cond (.tmp 17) (.skip) (.exit 2))) (.seq (.block 3 none (.region [⟨some 20, .move (.tmp 5), none, 0⟩, ⟨some 21, .move (.tmp 7), none, 0⟩, ⟨some 22, .conv (.int (.u8)) (.tmp 21), none, 2⟩, ⟨some 23, .bin (.or) (.tmp 22) (.val (.int .u8 128)), none, 6⟩, ⟨some 24, .buildSlice 1 [(.int .u8 0)] [(0, (.tmp 23))], none, 14⟩, ⟨some 25, .append 1 1 (.tmp 20) (.tmp 24), none, 31⟩, ⟨some 5, .assign (.tmp 25), none, 63⟩] false)) (.region [⟨some 18, .move (.tmp 7), none, 0⟩, ⟨some 19, .bin (.shr) (.tmp 18) (.val (.int .u64 7)), none, 1⟩, ⟨some 7, .assign (.tmp 19), none, 3⟩] false))))) (.region [⟨some 26, .move (.tmp 5), none, 0⟩, ⟨some 27, .move (.tmp 7), none, 0⟩, ⟨some 28, .conv (.int (.u8)) (.tmp 27), none, 2⟩, ⟨some 29, .buildSlice 1 [(.int .u8 0)] [(0, (.tmp 28))], none, 6⟩, ⟨some 30, .append 1 1 (.tmp 26) (.tmp 29), none, 15⟩, ⟨some 5, .assign (.tmp 30), none, 31⟩] false)))) (.region [⟨some 31, .bin (.add) (.tmp 12) (.val (.int .i64 1)), none, 0⟩, ⟨some 12, .move (.tmp 31), none, 1⟩] false))))))) (.seq (.region [⟨some 32, .move (.tmp 5), none, 0⟩, ⟨some 4, .assign (.tmp 32), none, 1⟩] false) (.ret))))
abbrev v73 : VFunc := { nparams := 2, ntmps := 33, nsites := 0, results := [.tmp 4], body := b73 }
abbrev b62 : VCode := .seq (.region [⟨some 1, .box 0 2 (.tmp 0), none, 0⟩, ⟨some 2, .assign (.val (.nilS 1)), none, 0⟩, ⟨some 3, .assign (.val (.int .i64 0)), none, 2⟩] false) (.seq (.seq (.region [⟨some 6, .fieldAddr 1 (.tmp 1), none, 0⟩, ⟨some 7, .load false 1 (.tmp 6), none, 1⟩, ⟨some 8, .len (.slc 1) (.tmp 7), none, 3⟩, ⟨some 9, .bin (.gtr) (.tmp 8) (.val (.int .i64 65536)), none, 7⟩] false) (.cond (.tmp 9) (.seq (.region [⟨some 2, .assign (.val (.nilS 1)), none, 0⟩, ⟨some 3, .assign (.val (.int .i64 63)), none, 1⟩] false) (.ret)) (.skip))) (.seq (.region [⟨some 10, .fieldAddr 0 (.tmp 1), none, 0⟩, ⟨some 11, .load false 1 (.tmp 10), none, 1⟩, ⟨some 12, .buildSlice 1 [(.int .u8 0), (.int .u8 0), (.int .u8 0)] [(0, (.val (.int .u8 167))), (1, (.val (.int .u8 1))), (2, (.tmp 11))], none, 3⟩, ⟨some 13, .fieldAddr 1 (.tmp 1), none, 0⟩, ⟨some 14, .load false 1 (.tmp 13), none, 8⟩, ⟨some 15, .len (.slc 1) (.tmp 14), none, 24⟩, ⟨some 16, .conv (.int (.u64)) (.tmp 15), none, 56⟩, ⟨some 17, .buildSlice 1 [(.int .u64 0)] [(0, (.tmp 16))], none, 120⟩, ⟨some 18, .call true 73 1 [(.tmp 12), (.tmp 17)], none, 255⟩, ⟨some 19, .fieldAddr 1 (.tmp 1), none, 0⟩, ⟨some 20, .load false 1 (.tmp 19), none, 512⟩, ⟨some 21, .append 1 1 (.tmp 18) (.tmp 20), none, 2047⟩, ⟨some 4, .assign (.tmp 21), none, 4095⟩] true) (.seq (.region [⟨some 22, .move (.tmp 4), none, 0⟩, ⟨some 23, .buildSlice 1 [(.isl 0 1 [])] [(0, (.tmp 22))], none, 1⟩, ⟨some 24, .call true 74 1 [(.tmp 23)], none, 3⟩, ⟨some 5, .assign (.tmp 24), none, 7⟩] false) (.seq (.region [⟨some 25, .move (.tmp 4), none, 0⟩, ⟨some 26, .move (.tmp 5), none, 0⟩, ⟨some 27, .conv (.int (.u8)) (.tmp 26), none, 2⟩, ⟨some 28, .move (.tmp 5), none, 0⟩, ⟨some 29, .bin (.shr) (.tmp 28) (.val (.int .u64 8)), none, 8⟩, ⟨some 30, .conv (.int (.u8)) (.tmp 29), none, 24⟩, ⟨some 31, .move (.tmp 5), none, 0⟩, ⟨some 32, .bin (.shr) (.tmp 31) (.val (.int .u64 16)), none, 64⟩, ⟨some 33, .conv (.int (.u8)) (.tmp 32), none, 192⟩, ⟨some 34, .move (.tmp 5), none, 0⟩, ⟨some 35, .bin (.shr) (.tmp 34) (.val (.int .u64 24)), none, 512⟩, ⟨some 36, .conv (.int (.u8)) (.tmp 35), none, 1536⟩, ⟨some 37, .buildSlice 1 [(.int .u8 0), (.int .u8 0), (.int .u8 0), (.int .u8 0)] [(0, (.tmp 27)), (1, (.tmp 30)), (2, (.tmp 33)), (3, (.tmp 36))], none, 4094⟩, ⟨some 38, .append 1 1 (.tmp 25) (.tmp 37), none, 8191⟩, ⟨some 2, .assign (.tmp 38), none, 16383⟩, ⟨some 3, .assign (.val (.int .i64 0)), none, 32767⟩] false) (.ret)))))
abbrev v62 : VFunc := { nparams := 1, ntmps := 39, nsites := 1, results := [.tmp 2, .tmp 3], body := b62 }
def digN (n : Nat) : List Nat := if n < 128 then [n] else (n % 128 + 128) :: digN (n / 128)
decreasing_by omega
theorem digN_lo {n : Nat} (h : n < 128) : digN n = [n] := by rw [digN, if_pos h]
theorem digN_hi {n : Nat} (h : ¬ n < 128) : digN n = (n % 128 + 128) :: digN (n / 128) := by rw [digN, if_neg h]
theorem digN_lt (n : Nat) : ∀ x ∈ digN n, x < 256 := by
  induction n using Nat.strongRecOn with
  | ind n ih =>
    by_cases h : n < 128
    · rw [digN_lo h]; intro x hx; simp at hx; omega
    · rw [digN_hi h]
      intro x hx
      rcases List.mem_cons.1 hx with rfl | hx
      · omega
      · exact ih (n / 128) (by omega) x hx
theorem digN_len (k n : Nat) (h : n < 128 ^ (k + 1)) : (digN n).length ≤ k + 1 := by
  induction k generalizing n with
  | zero => rw [digN_lo (by omega)]; simp
  | succ k ih =>
    by_cases h1 : n < 128
    · rw [digN_lo h1]; simp
    · rw [digN_hi h1]
      have := ih (n / 128) (by rw [Nat.pow_succ] at h; omega)
      simp only [List.length_cons]; omega
theorem or128 (n : Nat) : IntKind.u8.wrap (BitVec.ofInt IntKind.u8.bits (IntKind.u8.wrap (n : Int)) ||| BitVec.ofInt IntKind.u8.bits 128).toNat = ((n % 128 + 128 : Nat) : Int) := by
  have h1 : IntKind.u8.wrap (n : Int) = ((n % 256 : Nat) : Int) := by simp only [IntKind.wrap, IntKind.bits, IntKind.signed]; simp
  have e : (BitVec.ofInt 8 ((n % 256 : Nat) : Int) ||| BitVec.ofInt 8 128).toNat = n % 128 + 128 := by
    rw [show (128 : Int) = ((128 : Nat) : Int) from rfl, orN _ _ (by omega) (by decide)]
    rcases Nat.lt_or_ge (n % 256) 128 with h | h
    · have e1 : n % 256 = n % 128 := by omega
      rw [e1, Nat.or_comm]
      have := Nat.two_pow_add_eq_or_of_lt (b := n % 128) (i := 7) (by omega) 1
      simp at this
      rw [← this]; omega
    · have e1 : n % 256 = 128 + n % 128 := by omega
      rw [e1]
      have := Nat.two_pow_add_eq_or_of_lt (b := n % 128) (i := 7) (by omega) 1
      simp at this
      rw [this, Nat.or_comm 128, Nat.or_assoc, Nat.or_self, Nat.or_comm, ← this]; omega
  rw [h1]
  show IntKind.u8.wrap (((BitVec.ofInt 8 ((n % 256 : Nat) : Int) ||| BitVec.ofInt 8 128).toNat : Nat) : Int) = _
  rw [e, wrap8 _ (by omega)]
theorem byN_snoc (l : List Nat) (x : Nat) : byN l ++ [V.int .u8 (x : Int)] = byN (l ++ [x]) := by rw [byN_app]; rfl
abbrev u64s (ns : List Nat) : List V := ns.map fun (n : Nat) => V.int .u64 (n : Int)
section
variable (G : VProg)
theorem Number (hG : G 73 = some (.code v73)) (hc : ∀ es : List V, es.length ≤ 140737488355328 → lim G 51 [.isl 0 1 es] [] = some (.xsl 0 1 es, []))
    (b : List Nat) (ns : List Nat) (hn : ∀ n ∈ ns, n < 2 ^ 64) (hl : ns.length < 2 ^ 40) (hb : (b ++ ns.flatMap digN).length < 2 ^ 40) : lim G 73 [.isl 0 1 (byN b), .isl 0 1 (u64s ns)] [] = some (.xsl 0 1 (byN (b ++ ns.flatMap digN)), []) := by
  have h1 := hc (byN b) (by rw [byN_len]; simp at hb; omega)
  obtain ⟨tot, htot⟩ : ∃ t, t = b ++ ns.flatMap digN := ⟨_, rfl⟩
  rw [← htot] at hb ⊢
  have h2 : V.apart (.xsl 0 1 (byN b)) = true := by simp [V.apart, V.leaves, byN, V.noslice]
  refine lim_fun hG (h := runV h2 h2 ?_)
  refine WL_loop (fun a : Nat × List Nat => ⟨(.gone 0 :: .isl 0 1 (u64s ns) :: .gone 0 :: .gone 0 :: .gone 0 :: .xsl 0 1 (byN a.2) :: .gone 0 :: .gone 0 :: .gone 0 :: .gone 0 :: .isl 0 1 (u64s ns) :: .int .i64 ns.length :: .int .i64 (a.1 : Nat) :: .gone 0 :: .gone 0 :: .gone 0 :: .gone 0 :: .gone 0 :: .gone 0 :: .gone 0 :: .gone 0 :: .gone 0 :: .gone 0 :: .gone 0 :: .gone 0 :: .gone 0 :: .gone 0 :: .gone 0 :: .gone 0 :: .gone 0 :: .gone 0 :: .gone 0 :: .gone 0 :: []), []⟩)
    (fun a => a.1 ≤ ns.length ∧ a.2 ++ (ns.drop a.1).flatMap digN = tot) (fun a => ns.length - a.1) ?_ (0, b) _ ⟨by omega, htot.symm⟩ (by kernel_rfl)
  rintro ⟨i, out⟩ ⟨hi, hh⟩
  simp only at hi hh ⊢
  by_cases h : i < ns.length
  · have hlt : decide ((i : Int) < (ns.length : Int)) = true := by simp; omega
    have hadd := inc64 i (by omega)
    obtain ⟨n, hnd⟩ : ∃ n, n = ns[i] := ⟨_, rfl⟩
    have hn64 : n < 2 ^ 64 := by rw [hnd]; exact hn _ (List.getElem_mem h)
    have hg : (u64s ns)[i]? = some (.int .u64 (n : Int)) := by rw [hnd]; simp [h]
    rw [List.drop_eq_getElem_cons h, List.flatMap_cons, ← hnd, ← List.append_assoc] at hh
    have hlen : (out ++ digN n).length < 2 ^ 40 := by rw [← hh] at hb; simp only [List.length_append] at hb ⊢; omega
    refine runV (And.intro hlt (And.intro hadd hg)) trivial ?_
    refine WL_loop (fun a : Nat × List Nat => ⟨(.gone 0 :: .isl 0 1 (u64s ns) :: .gone 0 :: .gone 0 :: .gone 0 :: .xsl 0 1 (byN a.2) :: .gone 0 :: .int .u64 (a.1 : Nat) :: .gone 0 :: .gone 0 :: .isl 0 1 (u64s ns) :: .int .i64 ns.length :: .int .i64 (i : Nat) :: .gone 0 :: .iptr [.int .u64 (n : Int)] :: .int .u64 (n : Int) :: .gone 0 :: .gone 0 :: .gone 0 :: .gone 0 :: .gone 0 :: .gone 0 :: .gone 0 :: .gone 0 :: .gone 0 :: .gone 0 :: .gone 0 :: .gone 0 :: .gone 0 :: .gone 0 :: .gone 0 :: .gone 0 :: .gone 0 :: []), []⟩)
      (fun a => a.1 < 2 ^ 64 ∧ a.2 ++ digN a.1 = out ++ digN n) (fun a => a.1) ?_ (n, out) _ ⟨hn64, rfl⟩ (by kernel_rfl)
    rintro ⟨m, o⟩ ⟨hm, ho⟩
    simp only at hm ho ⊢
    have hol : o.length + (digN m).length < 2 ^ 40 := by rw [← ho] at hlen; simpa using hlen
    by_cases h128 : m < 128
    · rw [digN_lo h128] at ho hol
      have hc1 : decide (128 ≤ (m : Int)) = false := by simp; omega
      have hw : IntKind.u8.wrap (m : Int) = (m : Int) := wrap8 _ (by omega)
      have hob : o.length + 1 ≤ 140737488355328 := by simp at hol; omega
      refine runV hc1 trivial ?_
      refine Qr_x ?_
      refine Qb_x (σ1 := ⟨(.gone 0 :: .isl 0 1 (u64s ns) :: .gone 0 :: .gone 0 :: .gone 0 :: .xsl 0 1 (byN o) :: .gone 0 :: .int .u64 (m : Nat) :: .gone 0 :: .gone 0 :: .isl 0 1 (u64s ns) :: .int .i64 ns.length :: .int .i64 (i : Nat) :: .gone 0 :: .iptr [.int .u64 (n : Int)] :: .int .u64 (n : Int) :: .gone 0 :: .gone 0 :: .gone 0 :: .gone 0 :: .gone 0 :: .gone 0 :: .gone 0 :: .gone 0 :: .gone 0 :: .gone 0 :: .gone 0 :: .gone 0 :: .gone 0 :: .gone 0 :: .gone 0 :: .gone 0 :: .gone 0 :: []), []⟩) (by kernel_rfl) ?_
      have es := byN_snoc o m
      refine runV (And.intro hw es) trivial ?_
      refine Qb_n (σ1 := ⟨(.gone 0 :: .isl 0 1 (u64s ns) :: .gone 0 :: .gone 0 :: .gone 0 :: .xsl 0 1 (byN o ++ byN [m]) :: .gone 0 :: .gone 0 :: .gone 0 :: .gone 0 :: .isl 0 1 (u64s ns) :: .int .i64 ns.length :: .int .i64 (i : Nat) :: .gone 0 :: .gone 0 :: .gone 0 :: .gone 0 :: .gone 0 :: .gone 0 :: .gone 0 :: .gone 0 :: .gone 0 :: .gone 0 :: .gone 0 :: .gone 0 :: .gone 0 :: .gone 0 :: .gone 0 :: .gone 0 :: .gone 0 :: .gone 0 :: .gone 0 :: .gone 0 :: []), []⟩) (by kernel_rfl) ?_
      refine runV hadd trivial ?_
      exact Qr_n (i + 1, o ++ [m]) (by simp only [byN_app]; kernel_rfl) ⟨⟨by simp only; omega, by simp only; rw [ho]; exact hh⟩, by simp only; omega⟩
    · rw [digN_hi h128] at ho hol
      have hc1 : decide (128 ≤ (m : Int)) = true := by simp; omega
      have hw := or128 m
      have hs : (m : Int).fdiv (2 ^ min 7 IntKind.u64.bits) = ((m / 128 : Nat) : Int) := by
        rw [Int.fdiv_eq_ediv_of_nonneg _ (by decide)]; rfl
      have hob : o.length + 1 ≤ 140737488355328 := by simp at hol; omega
      have es := byN_snoc o (m % 128 + 128)
      refine runV (And.intro hc1 (And.intro hw (And.intro hs es))) trivial ?_
      exact Qr_n (m / 128, o ++ [m % 128 + 128]) (by simp only [byN_app]; kernel_rfl) ⟨⟨by simp only; omega, by simp only; rw [List.append_assoc]; exact ho⟩, by simp only; omega⟩
  · obtain rfl : i = ns.length := by omega
    have hlt : decide ((ns.length : Int) < (ns.length : Int)) = false := by simp
    rw [List.drop_length, List.flatMap_nil, List.append_nil] at hh
    subst hh
    refine runV hlt trivial ?_
    refine Qr_x ?_
    refine Qb_x (σ1 := ⟨(.gone 0 :: .gone 0 :: .gone 0 :: .gone 0 :: .gone 0 :: .xsl 0 1 (byN out) :: .gone 0 :: .gone 0 :: .gone 0 :: .gone 0 :: .gone 0 :: .gone 0 :: .gone 0 :: .gone 0 :: .gone 0 :: .gone 0 :: .gone 0 :: .gone 0 :: .gone 0 :: .gone 0 :: .gone 0 :: .gone 0 :: .gone 0 :: .gone 0 :: .gone 0 :: .gone 0 :: .gone 0 :: .gone 0 :: .gone 0 :: .gone 0 :: .gone 0 :: .gone 0 :: .gone 0 :: []), []⟩) (by kernel_rfl) ?_
    refine runV trivial trivial ?_
    exact end_own rfl rfl rfl rfl (byN_len out).symm
end
end P1
end Go.Vq
namespace Go.Vq
namespace P1
open Go
set_option maxRecDepth 1000000
set_option maxHeartbeats 8000000
def fourN (c : Nat) : List Nat := [c % 256, c / 256 % 256, c / 65536 % 256, c / 16777216 % 256]
def headN (k : Nat) (body : List Nat) : List Nat := [167, 1, k] ++ digN body.length ++ body
def frameN (k : Nat) (body : List Nat) : List Nat := headN k body ++ fourN (crc (headN k body))
theorem headN_lt {k : Nat} {body : List Nat} (hk : k < 256) (hb : ∀ x ∈ body, x < 256) : ∀ x ∈ headN k body, x < 256 := by
  intro x hx
  simp only [headN, List.mem_append, List.mem_cons, List.not_mem_nil, or_false] at hx
  rcases hx with ((rfl | rfl | rfl) | hx) | hx
  · omega
  · omega
  · exact hk
  · exact digN_lt _ x hx
  · exact hb x hx
theorem crc_lt (l : List Nat) : crc l < 2 ^ 32 := by unfold crc; omega
section
variable (G : VProg)
theorem Frame (hG : G 62 = some (.code v62))
    (hN : ∀ (b ns : List Nat), (∀ n ∈ ns, n < 2 ^ 64) → ns.length < 2 ^ 40 → (b ++ ns.flatMap digN).length < 2 ^ 40 → lim G 73 [.isl 0 1 (byN b), .isl 0 1 (u64s ns)] [] = some (.xsl 0 1 (byN (b ++ ns.flatMap digN)), []))
    (hO : ∀ l : List Nat, l.length < 2 ^ 40 → (∀ x ∈ l, x < 256) → lim G 74 [.isl 0 1 [.isl 0 1 (byN l)]] [] = some (.int .u32 (crc l : Nat), []))
    (k : Nat) (hk : k < 256) (body : List Nat) (hb : ∀ x ∈ body, x < 256) (hl : body.length ≤ 65536) : lim G 62 [.agg [.int .u8 k, .isl 0 1 (byN body)]] [] = some (.tup [.fsl 0 1 (byN (frameN k body)), .int .i64 0], []) := by
  have hd := digN_len 4 body.length (by omega)
  have h1 := hN [167, 1, k] [body.length] (by intro n hn; simp at hn; omega) (by simp) (by simp; omega)
  have e0 : [167, 1, k] ++ [body.length].flatMap digN = [167, 1, k] ++ digN body.length := by simp
  rw [e0] at h1
  have h1' : lim G 73 [.isl 0 1 [.int .u8 167, .int .u8 1, .int .u8 (k : Int)], .isl 0 1 [.int .u64 (body.length : Int)]] [] = some (.xsl 0 1 (byN ([167, 1, k] ++ digN body.length)), []) := h1
  clear h1
  have h2 := hO (headN k body) (by simp [headN]; omega) (headN_lt hk hb)
  obtain ⟨tot, htot⟩ : ∃ t, t = headN k body := ⟨_, rfl⟩
  have hl2 : tot.length ≤ 65536 + 8 := by rw [htot]; simp [headN]; omega
  unfold frameN
  rw [← htot] at h2 ⊢
  obtain ⟨c, hc⟩ : ∃ c, c = crc tot := ⟨_, rfl⟩
  have hc32 : c < 2 ^ 32 := by rw [hc]; exact crc_lt _
  rw [← hc] at h2 ⊢
  unfold headN at htot
  obtain ⟨pr, hpr⟩ : ∃ p, p = [167, 1, k] ++ digN body.length := ⟨_, rfl⟩
  rw [← hpr] at h1' htot
  have hl3 : pr.length ≤ 8 := by rw [hpr]; simp; omega
  clear hpr hd e0
  have e1 : byN pr ++ byN body = byN tot := by rw [htot, byN_app]
  have w0 : IntKind.u64.wrap (body.length : Int) = (body.length : Int) := wrap64 _ (by omega)
  have w1 := wrap8m c
  have s1 : (c : Int).fdiv (2 ^ min 8 IntKind.u32.bits) = ((c / 256 : Nat) : Int) := by rw [Int.fdiv_eq_ediv_of_nonneg _ (by decide)]; rfl
  have s2 : (c : Int).fdiv (2 ^ min 16 IntKind.u32.bits) = ((c / 65536 : Nat) : Int) := by rw [Int.fdiv_eq_ediv_of_nonneg _ (by decide)]; rfl
  have s3 : (c : Int).fdiv (2 ^ min 24 IntKind.u32.bits) = ((c / 16777216 : Nat) : Int) := by rw [Int.fdiv_eq_ediv_of_nonneg _ (by decide)]; rfl
  have w2 := wrap8m (c / 256)
  have w3 := wrap8m (c / 65536)
  have w4 := wrap8m (c / 16777216)
  have a1 : V.apart (.xsl 0 1 (byN pr)) = true := by simp [V.apart, V.leaves, byN, V.noslice]
  have hlen : pr.length + body.length = tot.length := by rw [htot]; simp
  have e2 : byN tot ++ [.int .u8 ((c % 256 : Nat) : Int), .int .u8 ((c / 256 % 256 : Nat) : Int), .int .u8 ((c / 65536 % 256 : Nat) : Int), .int .u8 ((c / 16777216 % 256 : Nat) : Int)] = byN (tot ++ fourN c) := by rw [byN_app]; rfl
  obtain ⟨out, hout⟩ : ∃ o, o = tot ++ fourN c := ⟨_, rfl⟩
  rw [← hout] at e2 ⊢
  have hgt : decide (65536 < (body.length : Int)) = false := by simp; omega
  clear htot hc hout
  have et := byN_takeL tot
  refine lim_fun hG (h := runV (And.intro w0 (And.intro hgt (And.intro e1 (And.intro w1 (And.intro s1 (And.intro s2 (And.intro s3 (And.intro w2 (And.intro w3 (And.intro w4 (And.intro e2 (And.intro et hlen)))))))))))) a1 trivial)
end
end P1
end Go.Vq
