/- The V-level machine, run on values that are not known (no law of Go is stated here). -/
import Derived.Test.YtbbpandancpibaaT
import Derived.KernelRfl
set_option linter.unusedVariables false
set_option linter.unusedSimpArgs false
set_option linter.unusedSectionVars false
/-! plate: what its functions come to. -/
namespace Go.Vq
namespace P1
open Go
set_option maxRecDepth 1000000
set_option maxHeartbeats 4000000
abbrev b13 : VCode := .seq (.region [⟨some 2, .assign (.val .nil), none, 0⟩] false) (.seq (.region [⟨some 3, .move (.tmp 0), none, 0⟩, ⟨some 4, .min [(.tmp 3), (.val (.int .i64 4096))], none, 1⟩, ⟨some 5, .max [(.val (.int .i64 0)), (.tmp 4)], none, 3⟩, ⟨some 6, .makeSlice 64 64 (.agg (Z8 64)) (.tmp 5) (.tmp 5), none, 7⟩, ⟨some 7, .build [(.nilS 64), (.nilS 65), (.bool false), (.int .i64 0)] [(0, 1, (.tmp 6)), (3, 1, (.val (.int .i64 (-1))))], none, 15⟩, ⟨some 8, .box 0 4 (.tmp 7), none, 31⟩, ⟨some 2, .assign (.tmp 8), none, 63⟩] false) (.ret))
abbrev v13 : VFunc := { nparams := 1, ntmps := 9, nsites := 1, results := [.tmp 2], body := b13 }
abbrev b25 : VCode := .seq (.region [⟨some 5, .box 0 64 (.tmp 2), none, 0⟩, ⟨some 6, .assign (.val (.int .i64 0)), none, 0⟩] false) (.seq (.seq (.region [⟨some 8, .move (.tmp 0), none, 0⟩, ⟨some 9, .move (.tmp 1), none, 0⟩, ⟨some 10, .call false 58 1 [(.tmp 8), (.tmp 9)], none, 3⟩, ⟨some 11, .un (.not) (.tmp 10), none, 7⟩] false) (.cond (.tmp 11) (.seq (.region [⟨some 6, .assign (.val (.int .i64 71)), none, 0⟩] false) (.ret)) (.skip))) (.seq (.seq (.region [⟨some 12, .move (.tmp 0), none, 0⟩, ⟨some 13, .call false 56 1 [(.tmp 12)], none, 1⟩, ⟨some 7, .assign (.tmp 13), none, 3⟩] false) (.seq (.region [⟨some 14, .move (.tmp 7), none, 0⟩, ⟨some 15, .eq true (.num) (.tmp 14) (.val (.int .i64 0)), none, 1⟩] false) (.cond (.tmp 15) (.seq (.region [⟨some 16, .move (.tmp 7), none, 0⟩, ⟨some 6, .assign (.tmp 16), none, 1⟩] false) (.ret)) (.skip)))) (.seq (.region [⟨some 17, .move (.tmp 0), none, 0⟩, ⟨some 18, .move (.tmp 0), none, 0⟩, ⟨some 19, .nilCheck (.tmp 18), none, 2⟩, ⟨some 20, .fieldAddr 1 (.tmp 19), none, 6⟩, ⟨some 21, .load false 1 (.tmp 20), none, 14⟩, ⟨some 22, .move (.tmp 1), none, 0⟩, ⟨some 23, .load true 64 (.tmp 5), none, 0⟩, ⟨some 24, .build ([(.int .i64 0)] ++ Z8 64) [(0, 1, (.tmp 22)), (1, 64, (.tmp 23))], none, 96⟩, ⟨some 25, .buildSlice 65 [(.agg ([(.int .i64 0)] ++ Z8 64))] [(0, (.tmp 24))], none, 224⟩, ⟨some 26, .append 65 72 (.tmp 21) (.tmp 25), none, 510⟩, ⟨some 27, .nilCheck (.tmp 17), none, 1023⟩, ⟨some 28, .fieldAddr 1 (.tmp 27), none, 2047⟩, ⟨none, .store 1 (.tmp 28) (.tmp 26), none, 4095⟩] true) (.seq (.region [⟨some 6, .assign (.val (.int .i64 0)), none, 0⟩] false) (.ret)))))
abbrev v25 : VFunc := { nparams := 3, ntmps := 29, nsites := 1, results := [.tmp 6], body := b25 }
abbrev b19 : VCode := .seq (.region [⟨some 2, .assign (.val (.int .i64 0)), none, 0⟩] false) (.seq (.seq (.region [⟨some 6, .move (.tmp 0), none, 0⟩, ⟨some 7, .call false 56 0 [(.tmp 6)], none, 1⟩, ⟨some 3, .assign (.tmp 7), none, 3⟩] false) (.seq (.region [⟨some 8, .move (.tmp 3), none, 0⟩, ⟨some 9, .eq true (.num) (.tmp 8) (.val (.int .i64 0)), none, 1⟩] false) (.cond (.tmp 9) (.seq (.region [⟨some 10, .move (.tmp 3), none, 0⟩, ⟨some 2, .assign (.tmp 10), none, 1⟩] false) (.ret)) (.skip)))) (.seq (.seq (.region [⟨some 11, .move (.tmp 0), none, 0⟩, ⟨some 12, .nilCheck (.tmp 11), none, 1⟩, ⟨some 13, .fieldAddr 1 (.tmp 12), none, 3⟩, ⟨some 14, .load false 1 (.tmp 13), none, 7⟩, ⟨some 15, .len (.slc 65) (.tmp 14), none, 15⟩, ⟨some 16, .move (.val (.int .i64 0)), none, 0⟩] false) (.block 0 (some [0]) (.loop (some [0, 11, 12, 13, 14, 15, 16]) (.seq (.region [⟨some 17, .bin (.lss) (.tmp 16) (.tmp 15), none, 0⟩] false) (.seq (.cond (.tmp 17) (.skip) (.exit 0)) (.seq (.block 1 none (.seq (.region [⟨some 18, .indexAddr none 65 (.tmp 14) (.tmp 16), none, 0⟩, ⟨some 19, .load true 65 (.tmp 18), none, 1⟩, ⟨some 5, .alloc 0 ([(.int .i64 0)] ++ Z8 64), none, 0⟩, ⟨none, .store 65 (.tmp 5) (.tmp 19), none, 7⟩] false) (.region [⟨some 20, .move (.tmp 0), none, 0⟩, ⟨some 21, .nilCheck (.tmp 20), none, 1⟩, ⟨some 22, .fieldAddr 0 (.tmp 21), none, 3⟩, ⟨some 23, .load false 1 (.tmp 22), none, 7⟩, ⟨some 24, .fieldAddr 0 (.tmp 5), none, 0⟩, ⟨some 25, .load false 1 (.tmp 24), none, 16⟩, ⟨some 26, .fieldAddr 1 (.tmp 5), none, 0⟩, ⟨some 27, .load true 64 (.tmp 26), none, 64⟩, ⟨some 28, .indexAddr none 64 (.tmp 23) (.tmp 25), none, 255⟩, ⟨none, .store 64 (.tmp 28) (.tmp 27), none, 511⟩] true))) (.region [⟨some 29, .bin (.add) (.tmp 16) (.val (.int .i64 1)), none, 0⟩, ⟨some 16, .move (.tmp 29), none, 1⟩] false))))))) (.seq (.region [⟨some 30, .move (.tmp 0), none, 0⟩, ⟨some 31, .nilCheck (.tmp 30), none, 1⟩, ⟨some 32, .fieldAddr 1 (.tmp 31), none, 3⟩, ⟨none, .store 1 (.tmp 32) (.val (.nilS 65)), none, 7⟩] false) (.seq (.region [⟨some 2, .assign (.val (.int .i64 0)), none, 0⟩] false) (.ret)))))
abbrev v19 : VFunc := { nparams := 1, ntmps := 33, nsites := 1, results := [.tmp 2], body := b19 }
abbrev b53 : VCode := .seq (.region [⟨some 3, .box 0 1 (.tmp 1), none, 0⟩, ⟨some 4, .alloc 1 (Z8 64), none, 0⟩, ⟨some 5, .alloc 2 [(.int .i64 0)], none, 0⟩] false) (.seq (.seq (.region [⟨some 8, .move (.tmp 0), none, 0⟩, ⟨some 9, .load false 1 (.tmp 3), none, 0⟩, ⟨some 10, .call false 58 3 [(.tmp 8), (.tmp 9)], none, 3⟩, ⟨some 11, .un (.not) (.tmp 10), none, 7⟩] false) (.cond (.tmp 11) (.seq (.region [⟨some 12, .build (Z8 64) [], none, 0⟩, ⟨none, .store 64 (.tmp 4) (.tmp 12), none, 1⟩, ⟨none, .store 1 (.tmp 5) (.val (.int .i64 71)), none, 3⟩] false) (.ret)) (.skip))) (.seq (.seq (.region [⟨some 13, .move (.tmp 0), none, 0⟩, ⟨some 14, .nilCheck (.tmp 13), none, 1⟩, ⟨some 15, .fieldAddr 1 (.tmp 14), none, 3⟩, ⟨some 16, .load false 1 (.tmp 15), none, 7⟩, ⟨some 17, .call false 69 3 [(.tmp 16)], none, 15⟩] false) (.block 0 (some [0, 3, 4, 5]) (.range (.tmp 17) [18, 19] 7 (some [0, 3, 4, 5]) (.region [⟨some 7, .alloc 0 ([(.int .i64 0)] ++ Z8 64), none, 0⟩, ⟨none, .store 65 (.tmp 7) (.tmp 19), none, 1⟩] false) (.block 1 none (.seq (.region [⟨some 20, .fieldAddr 0 (.tmp 7), none, 0⟩, ⟨some 21, .load false 1 (.tmp 20), none, 1⟩, ⟨some 22, .load false 1 (.tmp 3), none, 0⟩, ⟨some 23, .eq false (.num) (.tmp 21) (.tmp 22), none, 7⟩] false) (.cond (.tmp 23) (.seq (.region [⟨some 24, .fieldAddr 1 (.tmp 7), none, 0⟩, ⟨some 25, .load true 64 (.tmp 24), none, 1⟩, ⟨none, .store 64 (.tmp 4) (.tmp 25), none, 3⟩, ⟨none, .store 1 (.tmp 5) (.val (.int .i64 0)), none, 7⟩] false) (.ret)) (.skip))))))) (.seq (.region [⟨some 26, .move (.tmp 0), none, 0⟩, ⟨some 27, .nilCheck (.tmp 26), none, 1⟩, ⟨some 28, .fieldAddr 0 (.tmp 27), none, 3⟩, ⟨some 29, .load false 1 (.tmp 28), none, 7⟩, ⟨some 30, .load false 1 (.tmp 3), none, 0⟩, ⟨some 31, .indexAddr none 64 (.tmp 29) (.tmp 30), none, 31⟩, ⟨some 32, .load true 64 (.tmp 31), none, 63⟩, ⟨none, .store 64 (.tmp 4) (.tmp 32), none, 127⟩, ⟨none, .store 1 (.tmp 5) (.val (.int .i64 0)), none, 255⟩] true) (.ret))))
abbrev v53 : VFunc := { nparams := 2, ntmps := 33, nsites := 8, results := [.cell 4 true 64, .cell 5 false 1], body := b53 }
abbrev b23 : VCode := .seq (.seq (.region [⟨some 11, .move (.tmp 0), none, 0⟩, ⟨some 12, .nilCheck (.tmp 11), none, 1⟩, ⟨some 13, .fieldAddr 1 (.tmp 12), none, 3⟩, ⟨some 14, .load false 1 (.tmp 13), none, 7⟩, ⟨some 15, .len (.slc 65) (.tmp 14), none, 15⟩, ⟨some 16, .move (.val (.int .i64 0)), none, 0⟩] false) (.block 0 (some [0]) (.loop (some [0, 1, 2, 3, 11, 12, 13, 14, 15, 16]) (.seq (.region [⟨some 17, .bin (.lss) (.tmp 16) (.tmp 15), none, 0⟩] false) (.seq (.cond (.tmp 17) (.skip) (.exit 0)) (.seq (.block 1 none (.seq (.region [⟨some 18, .move (.tmp 16), none, 0⟩, ⟨some 19, .indexAddr none 65 (.tmp 14) (.tmp 16), none, 0⟩, ⟨some 20, .load true 65 (.tmp 19), none, 2⟩, ⟨some 9, .alloc 0 ([(.int .i64 0)] ++ Z8 64), none, 0⟩, ⟨some 8, .assign (.tmp 18), none, 15⟩, ⟨none, .store 65 (.tmp 9) (.tmp 20), none, 31⟩] false) (.seq (.region [⟨some 10, .assign (.val (.int .i64 0)), none, 0⟩] false) (.seq (.seq (.region [⟨some 21, .move (.tmp 8), none, 0⟩, ⟨some 22, .bin (.quo) (.tmp 21) (.val (.int .i64 8)), none, 1⟩, ⟨some 23, .move (.tmp 1), none, 0⟩, ⟨some 24, .len (.slc 1) (.tmp 23), none, 4⟩, ⟨some 25, .bin (.lss) (.tmp 22) (.tmp 24), none, 15⟩, ⟨some 26, .move (.tmp 25), none, 31⟩, ⟨some 27, .move (.tmp 1), some (26, true), 63⟩, ⟨some 28, .move (.tmp 8), some (26, true), 63⟩, ⟨some 29, .bin (.quo) (.tmp 28) (.val (.int .i64 8)), some (26, true), 191⟩, ⟨some 30, .indexAddr none 1 (.tmp 27) (.tmp 29), some (26, true), 511⟩, ⟨some 31, .load false 1 (.tmp 30), some (26, true), 1023⟩, ⟨some 32, .move (.tmp 8), some (26, true), 63⟩, ⟨some 33, .bin (.rem) (.tmp 32) (.val (.int .i64 8)), some (26, true), 2111⟩, ⟨some 34, .bin (.shr) (.tmp 31) (.tmp 33), some (26, true), 8191⟩, ⟨some 35, .bin (.and) (.tmp 34) (.val (.int .u8 1)), some (26, true), 16383⟩, ⟨some 36, .eq false (.num) (.tmp 35) (.val (.int .u8 1)), some (26, true), 32767⟩, ⟨some 37, .pick (.tmp 26) (.tmp 36) (.val (.bool false)), none, 65535⟩] false) (.cond (.tmp 37) (.region [⟨some 10, .assign (.val (.int .i64 64)), none, 0⟩] false) (.skip))) (.seq (.seq (.region [⟨some 38, .move (.tmp 8), none, 0⟩, ⟨some 39, .move (.tmp 2), none, 0⟩, ⟨some 40, .eq false (.num) (.tmp 38) (.tmp 39), none, 3⟩] false) (.cond (.tmp 40) (.region [⟨some 41, .move (.tmp 3), none, 0⟩, ⟨some 42, .min [(.tmp 41), (.val (.int .i64 64))], none, 1⟩, ⟨some 43, .max [(.val (.int .i64 0)), (.tmp 42)], none, 3⟩, ⟨some 10, .assign (.tmp 43), none, 7⟩] false) (.skip))) (.region [⟨some 44, .move (.tmp 0), none, 0⟩, ⟨some 45, .nilCheck (.tmp 44), none, 1⟩, ⟨some 46, .fieldAddr 0 (.tmp 45), none, 3⟩, ⟨some 47, .load false 1 (.tmp 46), none, 7⟩, ⟨some 48, .fieldAddr 0 (.tmp 9), none, 0⟩, ⟨some 49, .load false 1 (.tmp 48), none, 16⟩, ⟨some 50, .indexAddr none 64 (.tmp 47) (.tmp 49), none, 63⟩, ⟨some 51, .move (.tmp 10), none, 0⟩, ⟨some 52, .slice (.arr 64) (.tmp 50) none (some (.tmp 51)) none, none, 255⟩, ⟨some 53, .fieldAddr 1 (.tmp 9), none, 0⟩, ⟨some 54, .slice (.arr 64) (.tmp 53) none none none, none, 512⟩, ⟨some 55, .copy 1 (.tmp 52) (.tmp 54), none, 2047⟩] true)))))) (.region [⟨some 56, .bin (.add) (.tmp 16) (.val (.int .i64 1)), none, 0⟩, ⟨some 16, .move (.tmp 56), none, 1⟩] false))))))) (.region [⟨some 57, .move (.tmp 0), none, 0⟩, ⟨some 58, .move (.tmp 0), none, 0⟩, ⟨some 59, .move (.tmp 0), none, 0⟩, ⟨some 60, .nilCheck (.tmp 57), none, 1⟩, ⟨some 61, .fieldAddr 1 (.tmp 60), none, 9⟩, ⟨none, .store 1 (.tmp 61) (.val (.nilS 65)), none, 25⟩, ⟨some 62, .nilCheck (.tmp 58), none, 59⟩, ⟨some 63, .fieldAddr 2 (.tmp 62), none, 123⟩, ⟨none, .store 1 (.tmp 63) (.val (.bool false)), none, 251⟩, ⟨some 64, .nilCheck (.tmp 59), none, 511⟩, ⟨some 65, .fieldAddr 3 (.tmp 64), none, 1023⟩, ⟨none, .store 1 (.tmp 65) (.val (.int .i64 (-1))), none, 2047⟩] false)
abbrev v23 : VFunc := { nparams := 4, ntmps := 66, nsites := 1, results := [], body := b23 }
abbrev b21 : VCode := .region [⟨some 4, .move (.tmp 0), none, 0⟩, ⟨some 5, .move (.tmp 1), none, 0⟩, ⟨some 6, .max [(.tmp 5), (.val (.int .i64 (-1)))], none, 2⟩, ⟨some 7, .nilCheck (.tmp 4), none, 7⟩, ⟨some 8, .fieldAddr 3 (.tmp 7), none, 15⟩, ⟨none, .store 1 (.tmp 8) (.tmp 6), none, 31⟩] false
abbrev v21 : VFunc := { nparams := 2, ntmps := 9, nsites := 0, results := [], body := b21 }
abbrev b52 : VCode := .seq (.region [⟨some 2, .assign (.val (.int .i64 0)), none, 0⟩] false) (.seq (.region [⟨some 3, .move (.tmp 0), none, 0⟩, ⟨some 4, .nilCheck (.tmp 3), none, 1⟩, ⟨some 5, .fieldAddr 0 (.tmp 4), none, 3⟩, ⟨some 6, .load false 1 (.tmp 5), none, 7⟩, ⟨some 7, .len (.slc 64) (.tmp 6), none, 15⟩, ⟨some 2, .assign (.tmp 7), none, 31⟩] false) (.ret))
abbrev v52 : VFunc := { nparams := 1, ntmps := 8, nsites := 0, results := [.tmp 2], body := b52 }
abbrev b58 : VCode := .seq (.region [⟨some 4, .assign (.val (.bool false)), none, 0⟩] false) (.seq (.region [⟨some 5, .move (.tmp 1), none, 0⟩, ⟨some 6, .bin (.geq) (.tmp 5) (.val (.int .i64 0)), none, 1⟩, ⟨some 7, .move (.tmp 6), none, 3⟩, ⟨some 8, .move (.tmp 1), some (7, true), 7⟩, ⟨some 9, .move (.tmp 0), some (7, true), 7⟩, ⟨some 10, .nilCheck (.tmp 9), some (7, true), 23⟩, ⟨some 11, .fieldAddr 0 (.tmp 10), some (7, true), 55⟩, ⟨some 12, .load false 1 (.tmp 11), some (7, true), 119⟩, ⟨some 13, .len (.slc 64) (.tmp 12), some (7, true), 247⟩, ⟨some 14, .bin (.lss) (.tmp 8) (.tmp 13), some (7, true), 511⟩, ⟨some 15, .pick (.tmp 7) (.tmp 14) (.val (.bool false)), none, 1023⟩, ⟨some 4, .assign (.tmp 15), none, 2047⟩] false) (.ret))
abbrev v58 : VFunc := { nparams := 2, ntmps := 16, nsites := 0, results := [.tmp 4], body := b58 }
abbrev b56 : VCode := .seq (.region [⟨some 2, .assign (.val (.int .i64 0)), none, 0⟩] false) (.seq (.region [⟨some 3, .move (.tmp 0), none, 0⟩, ⟨some 4, .move (.tmp 0), none, 0⟩, ⟨some 5, .nilCheck (.tmp 4), none, 2⟩, ⟨some 6, .fieldAddr 2 (.tmp 5), none, 6⟩, ⟨some 7, .load false 1 (.tmp 6), none, 14⟩, ⟨some 8, .move (.tmp 7), none, 30⟩, ⟨some 9, .move (.tmp 0), some (8, false), 62⟩, ⟨some 10, .nilCheck (.tmp 9), some (8, false), 126⟩, ⟨some 11, .fieldAddr 3 (.tmp 10), some (8, false), 254⟩, ⟨some 12, .load false 1 (.tmp 11), some (8, false), 510⟩, ⟨some 13, .eq false (.num) (.tmp 12) (.val (.int .i64 0)), some (8, false), 1022⟩, ⟨some 14, .pick (.tmp 8) (.val (.bool true)) (.tmp 13), none, 2046⟩, ⟨some 15, .nilCheck (.tmp 3), none, 4095⟩, ⟨some 16, .fieldAddr 2 (.tmp 15), none, 8191⟩, ⟨none, .store 1 (.tmp 16) (.tmp 14), none, 16383⟩] false) (.seq (.seq (.region [⟨some 17, .move (.tmp 0), none, 0⟩, ⟨some 18, .nilCheck (.tmp 17), none, 1⟩, ⟨some 19, .fieldAddr 2 (.tmp 18), none, 3⟩, ⟨some 20, .load false 1 (.tmp 19), none, 7⟩] false) (.cond (.tmp 20) (.seq (.region [⟨some 2, .assign (.val (.int .i64 72)), none, 0⟩] false) (.ret)) (.skip))) (.seq (.region [⟨some 21, .move (.tmp 0), none, 0⟩, ⟨some 22, .move (.tmp 0), none, 0⟩, ⟨some 23, .nilCheck (.tmp 22), none, 2⟩, ⟨some 24, .fieldAddr 3 (.tmp 23), none, 6⟩, ⟨some 25, .load false 1 (.tmp 24), none, 14⟩, ⟨some 26, .bin (.sub) (.tmp 25) (.val (.int .i64 1)), none, 30⟩, ⟨some 27, .max [(.tmp 26), (.val (.int .i64 (-1)))], none, 62⟩, ⟨some 28, .nilCheck (.tmp 21), none, 127⟩, ⟨some 29, .fieldAddr 3 (.tmp 28), none, 255⟩, ⟨none, .store 1 (.tmp 29) (.tmp 27), none, 511⟩] false) (.seq (.region [⟨some 2, .assign (.val (.int .i64 0)), none, 0⟩] false) (.ret)))))
abbrev v56 : VFunc := { nparams := 1, ntmps := 30, nsites := 0, results := [.tmp 2], body := b56 }
abbrev b69 : VCode := .seq (.region [⟨some 1, .ibox 0 1 (.tmp 0), none, 0⟩, ⟨some 2, .assign (.val .nilf), none, 0⟩] false) (.seq (.region [⟨some 3, .makeFunc 80 [(.tmp 1)], none, 0⟩, ⟨some 2, .assign (.tmp 3), none, 1⟩] false) (.ret))
abbrev v69 : VFunc := { nparams := 1, ntmps := 4, nsites := 1, results := [.tmp 2], body := b69 }
abbrev cellV (c : List Nat) : V := .agg (byN c)
abbrev writeV (w : Nat × List Nat) : V := .agg (V.int .i64 (w.1 : Int) :: byN w.2)
abbrev looseV (fz : Bool) (ls : List V) : V := match fz with | true => .fsl 0 65 ls | false => .xsl 0 65 ls
abbrev plateO (es : List (List Nat)) (fz : Bool) (ls : List (Nat × List Nat)) (off : Bool) (left : Int) : Obj := .cells [.xsl 0 64 (es.map cellV), looseV fz (ls.map writeV), .bool off, .int .i64 left]
abbrev q0 : V := .ptr (.obj 0 0)
def inR (i : Int) (n : Nat) : Bool := decide (0 ≤ i) && decide (i < n)
def spO (off : Bool) (left : Int) : Bool := off || left == 0
def spL (off : Bool) (left : Int) : Int := if off || left == 0 then left else if -1 > left - 1 then -1 else left - 1
def spE (off : Bool) (left : Int) : Int := if off || left == 0 then 72 else 0
def zero64 : List Nat := List.replicate 64 0
abbrev LR (left : Int) : Prop := -1 ≤ left ∧ left < 9223372036854775808
section
variable (G : VProg)
theorem there (hG : G 58 = some (.code v58)) (i : Int) (es fz ls off left) : lim G 58 [q0, .int .i64 i] [plateO es fz ls off left] = some (.bool (inR i es.length), [plateO es fz ls off left]) := by
  unfold inR
  cases fz <;> cases h : decide (0 ≤ i)
  all_goals exact lim_fun hG (h := runV h trivial trivial)
theorem plen (hG : G 52 = some (.code v52)) (es fz ls off left) : lim G 52 [q0] [plateO es fz ls off left] = some (.int .i64 es.length, [plateO es fz ls off left]) := by
  cases fz
  all_goals exact lim_fun hG (h := runV trivial trivial trivial)
theorem limit (hG : G 21 = some (.code v21)) (i : Int) (es fz ls off left) : lim G 21 [q0, .int .i64 i] [plateO es fz ls off left] = some (.tup [], [plateO es fz ls off (if -1 > i then -1 else i)]) := by
  cases fz
  all_goals exact lim_fun hG (h := runV trivial trivial trivial)
theorem spend (hG : G 56 = some (.code v56)) (es fz ls off left) (hl : LR left) : lim G 56 [q0] [plateO es fz ls off left] = some (.int .i64 (spE off left), [plateO es fz ls (spO off left) (spL off left)]) := by
  have hw := wrapi64 (left - 1) (by omega) (by omega)
  unfold spE spO spL
  cases fz <;> cases off <;> cases h : left == 0
  all_goals exact lim_fun hG (h := runV (And.intro h hw) trivial trivial)
theorem put (hG : G 25 = some (.code v25))
    (h45 : ∀ i es fz ls off left, lim G 58 [q0, .int .i64 i] [plateO es fz ls off left] = some (.bool (inR i es.length), [plateO es fz ls off left]))
    (h46 : ∀ es fz ls off left, LR left → lim G 56 [q0] [plateO es fz ls off left] = some (.int .i64 (spE off left), [plateO es fz ls (spO off left) (spL off left)]))
    (i : Int) (c : List Nat) (hc : c.length = 64) (es fz ls off left) (hb : (ls.length + 1) * 72 ≤ 140737488355328) (hl : LR left) :
    lim G 25 [q0, .int .i64 i, cellV c] [plateO es fz ls off left] = if inR i es.length then (if spO off left then some (.int .i64 72, [plateO es fz ls true left]) else some (.int .i64 0, [plateO es fz (ls ++ [(i.toNat, c)]) false (spL off left)])) else some (.int .i64 71, [plateO es fz ls off left]) := by
  have ei : inR i es.length = true → (i.toNat : Int) = i := by intro h; simp [inR] at h; omega
  have eL : spO off left = true → spL off left = left := by intro h; unfold spL; unfold spO at h; rw [if_pos h]
  have g1 := h45 i es fz ls off left
  have g2 := h46 es fz ls off left hl
  have tc := take_by hc
  have hE : spE off left = (if spO off left = true then 72 else 0) := rfl
  cases hx : inR i es.length <;> rw [hx] at g1
  · cases fz
    all_goals exact lim_fun hG (h := runV trivial trivial trivial)
  · have ei := ei hx
    cases hs : spO off left <;> rw [hs] at g2 hE <;> rw [hE] at g2
    · have em : (ls.map writeV) ++ [.agg (.int .i64 i :: byN c)] = (ls ++ [(i.toNat, c)]).map writeV := by simp [ei]
      cases fz
      all_goals exact lim_fun hG (h := runV (And.intro hc (And.intro tc em)) trivial trivial)
    · have eL := eL hs
      rw [eL] at g2
      cases fz
      all_goals exact lim_fun hG (h := runV trivial trivial trivial)
theorem back (hG : G 69 = some (.code v69)) (es : List V) : lim G 69 [.isl 0 65 es] [] = some (.func 80 [.iptr [.isl 0 65 es]], []) :=
  lim_fun hG (h := runV trivial trivial trivial)
theorem pnew (hG : G 13 = some (.code v13)) (n : Int) : lim G 13 [.int .i64 n] [] = some (q0, [plateO (List.replicate (max 0 (min n 4096)).toNat zero64) false [] false (-1)]) := by
  have e : (if 0 < (if (4096 : Int) < n then (4096 : Int) else n) then (if (4096 : Int) < n then (4096 : Int) else n) else 0) = max 0 (min n 4096) := by split <;> split <;> omega
  obtain ⟨k, hk⟩ : ∃ k : Nat, max 0 (min n 4096) = (k : Int) := ⟨(max 0 (min n 4096)).toNat, by omega⟩
  have hk2 : k ≤ 4096 := by omega
  have ez : V.agg (Z8 64) = cellV zero64 := by unfold zero64; rw [byN_rep]
  have em : List.replicate k (cellV zero64) = (List.replicate k zero64).map cellV := by rw [List.map_replicate]
  rw [hk, Int.toNat_natCast]
  rw [hk] at e
  exact lim_fun hG (h := runV (And.intro e (And.intro ez em)) trivial trivial)
end
end P1
end Go.Vq

namespace Go.Vq
namespace P1
open Go
set_option maxRecDepth 1000000
set_option maxHeartbeats 4000000
def bodyFl : VCode := (.seq (.region [⟨some 17, .bin (.lss) (.tmp 16) (.tmp 15), none, 0⟩] false) (.seq (.cond (.tmp 17) (.skip) (.exit 0)) (.seq (.block 1 none (.seq (.region [⟨some 18, .indexAddr none 65 (.tmp 14) (.tmp 16), none, 0⟩, ⟨some 19, .load true 65 (.tmp 18), none, 1⟩, ⟨some 5, .alloc 0 ([(.int .i64 0)] ++ Z8 64), none, 0⟩, ⟨none, .store 65 (.tmp 5) (.tmp 19), none, 7⟩] false) (.region [⟨some 20, .move (.tmp 0), none, 0⟩, ⟨some 21, .nilCheck (.tmp 20), none, 1⟩, ⟨some 22, .fieldAddr 0 (.tmp 21), none, 3⟩, ⟨some 23, .load false 1 (.tmp 22), none, 7⟩, ⟨some 24, .fieldAddr 0 (.tmp 5), none, 0⟩, ⟨some 25, .load false 1 (.tmp 24), none, 16⟩, ⟨some 26, .fieldAddr 1 (.tmp 5), none, 0⟩, ⟨some 27, .load true 64 (.tmp 26), none, 64⟩, ⟨some 28, .indexAddr none 64 (.tmp 23) (.tmp 25), none, 255⟩, ⟨none, .store 64 (.tmp 28) (.tmp 27), none, 511⟩] true))) (.region [⟨some 29, .bin (.add) (.tmp 16) (.val (.int .i64 1)), none, 0⟩, ⟨some 16, .move (.tmp 29), none, 1⟩] false))))
abbrev wr (es : List (List Nat)) (w : Nat × List Nat) : List (List Nat) := es.set w.1 w.2
def SFl (es : List (List Nat)) (fz : Bool) (ls : List (Nat × List Nat)) (off : Bool) (left : Int) (i : Nat) : St :=
  ⟨(q0 :: .gone 0 :: .gone 0 :: .gone 0 :: .gone 0 :: .gone 0 :: .gone 0 :: .gone 0 :: .gone 0 :: .gone 0 :: .gone 0 :: q0 :: q0 :: .ptr (.obj 0 1) :: .srf (.obj 0 1) 0 65 0 ls.length :: .int .i64 ls.length :: .int .i64 i :: .gone 0 :: .gone 0 :: .gone 0 :: .gone 0 :: .gone 0 :: .gone 0 :: .gone 0 :: .gone 0 :: .gone 0 :: .gone 0 :: .gone 0 :: .gone 0 :: .gone 0 :: .gone 0 :: .gone 0 :: .gone 0 :: []), [some (plateO ((ls.take i).foldl wr es) fz ls off left), none]⟩
theorem foldl_wr_len (es : List (List Nat)) (ls : List (Nat × List Nat)) : (ls.foldl wr es).length = es.length := by
  induction ls generalizing es with
  | nil => rfl
  | cons w ls ih => rw [List.foldl_cons, ih]; simp
theorem foldl_wr_64 {es : List (List Nat)} {ls : List (Nat × List Nat)} (he : ∀ c ∈ es, c.length = 64) (hl : ∀ w ∈ ls, w.2.length = 64) : ∀ c ∈ ls.foldl wr es, c.length = 64 := by
  induction ls generalizing es with
  | nil => exact he
  | cons w ls ih =>
    rw [List.foldl_cons]
    refine ih (fun c hc => ?_) (fun w hw => hl w (List.mem_cons_of_mem _ hw))
    rcases List.mem_or_eq_of_mem_set hc with h | h
    · exact he c h
    · rw [h]; exact hl w List.mem_cons_self
theorem setCells_cell {c d : List Nat} (h : c.length = d.length) : V.setCells (cellV c) 0 (byN d) = cellV d := by
  show V.agg (splice (byN c) 0 (byN d)) = _
  simp only [splice, List.take_zero, List.nil_append, Nat.zero_add]
  rw [List.drop_of_length_le (by rw [byN_len, byN_len]; omega), List.append_nil]
section
variable (G : VProg)
theorem fl_round (es fz ls off left) (he : ∀ c ∈ es, c.length = 64) (hl : ∀ w ∈ ls, w.1 < es.length ∧ w.2.length = 64) (hn : ls.length < 2 ^ 40) (i : Nat) (hi : i < ls.length) (Q : Out → St → Prop) (J : Nat → Prop) (hj : J (i + 1)) :
    WL G 1 bodyFl (SFl es fz ls off left i) (Qrnd (some [0, 11, 12, 13, 14, 15, 16]) 1 (SFl es fz ls off left) J Q) := by
  have hlt : decide ((i : Int) < ls.length) = true := by simp; omega
  have hw := hl ls[i] (List.getElem_mem _)
  obtain ⟨es', hes⟩ : ∃ es', es' = (ls.take i).foldl wr es := ⟨_, rfl⟩
  have hel : es'.length = es.length := by rw [hes, foldl_wr_len]
  have hinc := inc64 i (by omega)
  have h64 : es'[ls[i].1].length = 64 := by
    have := foldl_wr_64 (es := es) (ls := ls.take i) he (fun w hw => (hl w (List.mem_of_mem_take hw)).2)
    rw [← hes] at this
    exact this _ (List.getElem_mem _)
  have e2 : (ls.take (i + 1)).foldl wr es = wr es' ls[i] := by rw [List.take_succ_eq_append_getElem hi, List.foldl_append, ← hes]; rfl
  have h1 : (ls.map writeV)[i]? = some (writeV ls[i]) := by simp [hi]
  obtain ⟨⟨a, c⟩, hac⟩ : ∃ x, x = ls[i] := ⟨_, rfl⟩
  simp only [← hac] at hw h64 e2 h1
  obtain ⟨d, hd⟩ : ∃ d, d = es'[a]'(by rw [hel]; exact hw.1) := ⟨_, rfl⟩
  rw [← hd] at h64
  have h2 : (es'.map cellV)[a]? = some (cellV d) := by rw [hd]; simp [hel, hw.1]
  obtain ⟨hw1, hw2⟩ := hw
  have e1 : (List.map cellV es').set a ((cellV d).setCells 0 (byN c)) = List.map cellV (wr es' (a, c)) := by
    rw [setCells_cell (h64.trans hw2.symm), ← List.map_set]
  have tc := take_by hw2
  have td := take_by h64
  unfold SFl bodyFl
  rw [← hes]
  cases fz
  all_goals
    refine runV (And.intro hlt (And.intro hinc (And.intro hw2 (And.intro h64 (And.intro h1 (And.intro h2 (And.intro tc (And.intro td e1)))))))) trivial ?_
    refine Qr_n (i + 1) ?_ hj
    simp only [e2]
    kernel_rfl
theorem flush (hG : G 19 = some (.code v19))
    (h46 : ∀ es fz ls off left, LR left → lim G 56 [q0] [plateO es fz ls off left] = some (.int .i64 (spE off left), [plateO es fz ls (spO off left) (spL off left)]))
    (es fz ls off left) (he : ∀ c ∈ es, c.length = 64) (hw : ∀ w ∈ ls, w.1 < es.length ∧ w.2.length = 64) (hb : ls.length < 2 ^ 40) (hl : LR left) :
    lim G 19 [q0] [plateO es fz ls off left] = if spO off left then some (.int .i64 72, [plateO es fz ls true left]) else some (.int .i64 0, [plateO (ls.foldl wr es) false [] false (spL off left)]) := by
  have eL : spO off left = true → spL off left = left := by intro h; unfold spL; unfold spO at h; rw [if_pos h]
  have g2 := h46 es fz ls off left hl
  have hE : spE off left = (if spO off left = true then 72 else 0) := rfl
  cases hs : spO off left <;> rw [hs] at g2 hE <;> rw [hE] at g2
  · cases fz
    case false =>
      refine lim_fun hG (h := runV trivial trivial ?_)
      refine WL_loop (SFl es false ls false (spL off left)) (fun i => i ≤ ls.length) (fun i => ls.length - i) ?_ 0 _ (Nat.zero_le _) (by kernel_rfl)
      intro i hi
      by_cases h : i < ls.length
      · exact fl_round G es false ls false (spL off left) he hw hb i h _ _ ⟨by omega, by omega⟩
      · obtain rfl : i = ls.length := by omega
        have hlt : decide ((ls.length : Int) < ls.length) = false := by simp
        unfold SFl
        simp only [List.take_length]
        refine runV hlt trivial ?_
        refine Qr_x ?_
        refine Qb_x (σ1 := ⟨(q0 :: .gone 0 :: .gone 0 :: .gone 0 :: .gone 0 :: .gone 0 :: .gone 0 :: .gone 0 :: .gone 0 :: .gone 0 :: .gone 0 :: .gone 0 :: .gone 0 :: .gone 0 :: .gone 0 :: .gone 0 :: .gone 0 :: .gone 0 :: .gone 0 :: .gone 0 :: .gone 0 :: .gone 0 :: .gone 0 :: .gone 0 :: .gone 0 :: .gone 0 :: .gone 0 :: .gone 0 :: .gone 0 :: .gone 0 :: .gone 0 :: .gone 0 :: .gone 0 :: []), [some (plateO (ls.foldl wr es) false ls false (spL off left)), none]⟩) (by kernel_rfl) ?_
        exact runV trivial trivial trivial
    case true =>
      refine lim_fun hG (h := runV trivial trivial ?_)
      refine WL_loop (SFl es true ls false (spL off left)) (fun i => i ≤ ls.length) (fun i => ls.length - i) ?_ 0 _ (Nat.zero_le _) (by kernel_rfl)
      intro i hi
      by_cases h : i < ls.length
      · exact fl_round G es true ls false (spL off left) he hw hb i h _ _ ⟨by omega, by omega⟩
      · obtain rfl : i = ls.length := by omega
        have hlt : decide ((ls.length : Int) < ls.length) = false := by simp
        unfold SFl
        simp only [List.take_length]
        refine runV hlt trivial ?_
        refine Qr_x ?_
        refine Qb_x (σ1 := ⟨(q0 :: .gone 0 :: .gone 0 :: .gone 0 :: .gone 0 :: .gone 0 :: .gone 0 :: .gone 0 :: .gone 0 :: .gone 0 :: .gone 0 :: .gone 0 :: .gone 0 :: .gone 0 :: .gone 0 :: .gone 0 :: .gone 0 :: .gone 0 :: .gone 0 :: .gone 0 :: .gone 0 :: .gone 0 :: .gone 0 :: .gone 0 :: .gone 0 :: .gone 0 :: .gone 0 :: .gone 0 :: .gone 0 :: .gone 0 :: .gone 0 :: .gone 0 :: .gone 0 :: []), [some (plateO (ls.foldl wr es) true ls false (spL off left)), none]⟩) (by kernel_rfl) ?_
        exact runV trivial trivial trivial
  · have eL := eL hs
    rw [eL] at g2
    cases fz
    all_goals exact lim_fun hG (h := runV trivial trivial trivial)
end
end P1
end Go.Vq

namespace Go.Vq
namespace P1
open Go
set_option maxRecDepth 1000000
set_option maxHeartbeats 4000000
section
variable (G : VProg)
/-- What was written last. -/
def find (ls : List (Nat × List Nat)) (i : Int) : Option (List Nat) := (ls.reverse.find? fun w => decide ((w.1 : Int) = i)).map (·.2)
def SGt (i : Int) (es : List (List Nat)) (ls : List (Nat × List Nat)) (off : Bool) (left : Int) : St := ⟨(q0 :: .gone 0 :: .gone 0 :: .ptr (.obj 1 0) :: .ptr (.obj 2 0) :: .ptr (.obj 3 0) :: .gone 0 :: .gone 0 :: .gone 0 :: .gone 0 :: .gone 0 :: .gone 0 :: .gone 0 :: .gone 0 :: .gone 0 :: .gone 0 :: .gone 0 :: .gone 0 :: .gone 0 :: .gone 0 :: .gone 0 :: .gone 0 :: .gone 0 :: .gone 0 :: .gone 0 :: .gone 0 :: .gone 0 :: .gone 0 :: .gone 0 :: .gone 0 :: .gone 0 :: .gone 0 :: .gone 0 :: []), [some (plateO es true ls off left), some (.cells [.int .i64 i]), some (.cells (Z8 64)), some (.cells [.int .i64 0]), none, none, none, none, none]⟩
def rbGt : VCode × VCode := match b53 with | .seq _ (.seq _ (.seq (.seq _ (.block _ _ (.range _ _ _ _ a b))) _)) => (a, b) | _ => (.skip, .skip)
theorem xsGt (ls : List (Nat × List Nat)) (k : Nat) (h : k < ls.length) (h' : k < ((idxV ((ls.map writeV).map (fixE true))).reverse).length) :
    ((idxV ((ls.map writeV).map (fixE true))).reverse)[k] = [.int .i64 ((ls.length - 1 - k : Nat) : Int), writeV ls[ls.length - 1 - k]] := by
  rw [List.getElem_reverse]
  simp [idxV, fixE, V.cells]
theorem gt_round (i : Int) (es ls off left) (k : Nat) (x : List V) (w : Nat × List Nat) (hw : w.2.length = 64) (hx : x = [.int .i64 ((ls.length - 1 - k : Nat) : Int), writeV w]) (J : Prop) (Q : Out → St → Prop)
    (h1 : (w.1 : Int) ≠ i → J)
    (h2 : (w.1 : Int) = i → Q .ret ⟨(q0 :: .gone 0 :: .gone 0 :: .ptr (.obj 1 0) :: .ptr (.obj 2 0) :: .ptr (.obj 3 0) :: .gone 0 :: .gone 0 :: .gone 0 :: .gone 0 :: .gone 0 :: .gone 0 :: .gone 0 :: .gone 0 :: .gone 0 :: .gone 0 :: .gone 0 :: .gone 0 :: .gone 0 :: .gone 0 :: .gone 0 :: .gone 0 :: .gone 0 :: .gone 0 :: .gone 0 :: .gone 0 :: .gone 0 :: .gone 0 :: .gone 0 :: .gone 0 :: .gone 0 :: .gone 0 :: .gone 0 :: []), [some (plateO es true ls off left), some (.cells [.int .i64 i]), some (.cells (byN w.2)), some (.cells [.int .i64 0]), none, none, none, none, none]⟩) :
    WL G 8 rbGt.1 (setPs [18, 19] x (SGt i es ls off left)) (QsN (lim G) (itersOf G) (limX G) 8 rbGt.2 (Qit 8 (SGt i es ls off left).slots (SGt i es ls off left) J Q)) := by
  subst hx
  obtain ⟨a, c⟩ := w
  simp only at hw h1 h2
  have tc := take_by hw
  have dc := drop_by hw
  unfold rbGt b53 SGt setPs
  simp only [List.zip_cons_cons, List.zip_nil_right, List.foldl_cons, List.foldl_nil, List.set_cons_succ, List.set_cons_zero]
  refine runV (And.intro hw tc) trivial ?_
  refine QsN_n ?_
  by_cases he : (a : Int) = i
  · have he' : ((a : Int) == i) = true := by simpa using he
    refine runV (And.intro hw (And.intro tc (And.intro dc he'))) trivial ?_
    refine Qi_r (τ := ⟨(q0 :: .gone 0 :: .gone 0 :: .ptr (.obj 1 0) :: .ptr (.obj 2 0) :: .ptr (.obj 3 0) :: .gone 0 :: .gone 0 :: .gone 0 :: .gone 0 :: .gone 0 :: .gone 0 :: .gone 0 :: .gone 0 :: .gone 0 :: .gone 0 :: .gone 0 :: .gone 0 :: .gone 0 :: .gone 0 :: .gone 0 :: .gone 0 :: .gone 0 :: .gone 0 :: .gone 0 :: .gone 0 :: .gone 0 :: .gone 0 :: .gone 0 :: .gone 0 :: .gone 0 :: .gone 0 :: .gone 0 :: []), [some (plateO es true ls off left), some (.cells [.int .i64 i]), some (.cells (byN c)), some (.cells [.int .i64 0]), none, none, none, none, none]⟩) ?_ (h2 he)
    obtain ⟨g, rfl⟩ := exN hw
    kernel_rfl
  · have he' : ((a : Int) == i) = false := by simpa using he
    refine runV (And.intro hw (And.intro tc (And.intro dc he'))) trivial ?_
    refine Qi_n ?_ (h1 he)
    obtain ⟨g, rfl⟩ := exN hw
    kernel_rfl
theorem find_at (ls : List (Nat × List Nat)) (i : Int) (k : Nat) (hk : k < ls.length) (he : (ls[k].1 : Int) = i) (hn : ∀ j (h : j < ls.length), k < j → (ls[j].1 : Int) ≠ i) : find ls i = some ls[k].2 := by
  unfold find
  have : ls.reverse.find? (fun w => decide ((w.1 : Int) = i)) = some ls[k] := by
    rw [List.find?_eq_some_iff_getElem]
    refine ⟨by simpa using he, ls.length - 1 - k, by simp; omega, ?_, fun j hj => ?_⟩
    · rw [List.getElem_reverse]; congr 1; omega
    · rw [List.getElem_reverse]
      simpa using hn (ls.length - 1 - j) (by omega) (by omega)
  rw [this]; rfl
theorem find_none (ls : List (Nat × List Nat)) (i : Int) (hn : ∀ j (h : j < ls.length), (ls[j].1 : Int) ≠ i) : find ls i = none := by
  unfold find
  have : ls.reverse.find? (fun w => decide ((w.1 : Int) = i)) = none := by
    rw [List.find?_eq_none]
    intro w hw
    obtain ⟨j, hj, rfl⟩ := List.getElem_of_mem (List.mem_reverse.1 hw)
    simpa using hn j hj
  rw [this]; rfl
/-- What stands at a place. -/
def getC (es : List (List Nat)) (ls : List (Nat × List Nat)) (i : Int) : List Nat := if inR i es.length then (find ls i).getD (es.getD i.toNat zero64) else zero64
theorem pget (hG : G 53 = some (.code v53)) (hG54 : G 80 = some (.iter (backwardI true 65)))
    (h45 : ∀ i es fz ls off left, lim G 58 [q0, .int .i64 i] [plateO es fz ls off left] = some (.bool (inR i es.length), [plateO es fz ls off left]))
    (h47 : ∀ (es : List V), lim G 69 [.isl 0 65 es] [] = some (.func 80 [.iptr [.isl 0 65 es]], []))
    (i : Int) (es fz ls off left) (he : ∀ c ∈ es, c.length = 64) (hw : ∀ w ∈ ls, w.2.length = 64) (hb : ls.length < 2 ^ 40) :
    lim G 53 [q0, .int .i64 i] [plateO es fz ls off left] = some (.tup [cellV (getC es ls i), .int .i64 (if inR i es.length then 0 else 71)], [plateO es (if inR i es.length then true else fz) ls off left]) := by
  have hz : zero64.length = 64 := rfl
  have g1 := h45 i es fz ls off left
  have g2 := h47 (ls.map writeV)
  cases hx : inR i es.length <;> rw [hx] at g1
  · simp only [getC, hx, Bool.false_eq_true, if_true, if_false]
    cases fz
    all_goals exact lim_fun hG (h := runV trivial trivial trivial)
  · simp only [getC, hx, Bool.false_eq_true, if_true, if_false]
    cases fz
    all_goals
      refine lim_fun hG (h := runV trivial trivial ?_)
      refine Vq.W_range (g := 80) (caps := [.iptr [.isl 0 65 (ls.map writeV)]]) (bs := [[.isl 0 65 (ls.map writeV)]]) (base := 1) (site := 7) rfl rfl (xs := (idxV ((ls.map writeV).map (fixE true))).reverse) ?_ (fun _ => SGt i es ls off left) (fun k => ∀ j, (h : j < ls.length) → ls.length - k ≤ j → ((ls[j]'h).1 : Int) ≠ i) (fun j h h2 => by omega) (by kernel_rfl) (fun k hk hI => ?_) (fun hI => ?_)
      · simp only [itersOf, hG54, backwardI]
        rw [if_pos (by simp; omega)]
        rfl
      · have hk' : k < ls.length := by simpa [idxV] using hk
        refine gt_round G i es ls off left k _ ls[ls.length - 1 - k] (hw _ (List.getElem_mem _)) (xsGt ls k hk' hk) _ _ (fun hne j hj hjk => ?_) (fun he => ?_)
        · by_cases hjj : j = ls.length - 1 - k
          · subst hjj; exact hne
          · exact hI j hj (by omega)
        · refine Qb_r ?_
          refine Qs_r ?_
          refine Qe_r ?_
          have hf : find ls i = some ls[ls.length - 1 - k].2 := find_at ls i _ (by omega) he (fun j hj hlt => hI j hj (by omega))
          simp only [hf, Option.getD_some]
          have h64 := hw _ (List.getElem_mem (show ls.length - 1 - k < ls.length by omega))
          obtain ⟨g, hg⟩ := exN h64
          rw [hg]
          show _ = _
          kernel_rfl
      · refine Qb_n (σ1 := SGt i es ls off left) (by kernel_rfl) ?_
        have hf : find ls i = none := find_none ls i fun j hj => hI j hj (by simp [idxV])
        simp only [hf, Option.getD_none]
        have hin : i.toNat < es.length := by simp [inR] at hx; omega
        have h64 := he _ (List.getElem_mem hin)
        have e1 : es.getD i.toNat zero64 = es[i.toNat] := by simp [List.getD_eq_getElem?_getD, hin]
        have h1 : (es.map cellV)[i.toNat]? = some (cellV es[i.toNat]) := by simp [hin]
        have hi0 : 0 ≤ i := by simp [inR] at hx; omega
        have hi1 : i < (es.length : Int) := by simp [inR] at hx; omega
        rw [e1]
        have t64 := take_by h64
        have d64 := drop_by h64
        unfold SGt
        refine runV (And.intro h64 (And.intro t64 (And.intro d64 (And.intro h1 (And.intro hi0 hi1))))) trivial ?_
        refine Qe_r ?_
        obtain ⟨g, hg⟩ := exN h64
        rw [hg]
        show _ = _
        kernel_rfl
end
end P1
end Go.Vq

namespace Go.Vq
namespace P1
open Go
set_option maxRecDepth 1000000
set_option maxHeartbeats 4000000
def bodyFa : VCode := (.seq (.region [⟨some 17, .bin (.lss) (.tmp 16) (.tmp 15), none, 0⟩] false) (.seq (.cond (.tmp 17) (.skip) (.exit 0)) (.seq (.block 1 none (.seq (.region [⟨some 18, .move (.tmp 16), none, 0⟩, ⟨some 19, .indexAddr none 65 (.tmp 14) (.tmp 16), none, 0⟩, ⟨some 20, .load true 65 (.tmp 19), none, 2⟩, ⟨some 9, .alloc 0 ([(.int .i64 0)] ++ Z8 64), none, 0⟩, ⟨some 8, .assign (.tmp 18), none, 15⟩, ⟨none, .store 65 (.tmp 9) (.tmp 20), none, 31⟩] false) (.seq (.region [⟨some 10, .assign (.val (.int .i64 0)), none, 0⟩] false) (.seq (.seq (.region [⟨some 21, .move (.tmp 8), none, 0⟩, ⟨some 22, .bin (.quo) (.tmp 21) (.val (.int .i64 8)), none, 1⟩, ⟨some 23, .move (.tmp 1), none, 0⟩, ⟨some 24, .len (.slc 1) (.tmp 23), none, 4⟩, ⟨some 25, .bin (.lss) (.tmp 22) (.tmp 24), none, 15⟩, ⟨some 26, .move (.tmp 25), none, 31⟩, ⟨some 27, .move (.tmp 1), some (26, true), 63⟩, ⟨some 28, .move (.tmp 8), some (26, true), 63⟩, ⟨some 29, .bin (.quo) (.tmp 28) (.val (.int .i64 8)), some (26, true), 191⟩, ⟨some 30, .indexAddr none 1 (.tmp 27) (.tmp 29), some (26, true), 511⟩, ⟨some 31, .load false 1 (.tmp 30), some (26, true), 1023⟩, ⟨some 32, .move (.tmp 8), some (26, true), 63⟩, ⟨some 33, .bin (.rem) (.tmp 32) (.val (.int .i64 8)), some (26, true), 2111⟩, ⟨some 34, .bin (.shr) (.tmp 31) (.tmp 33), some (26, true), 8191⟩, ⟨some 35, .bin (.and) (.tmp 34) (.val (.int .u8 1)), some (26, true), 16383⟩, ⟨some 36, .eq false (.num) (.tmp 35) (.val (.int .u8 1)), some (26, true), 32767⟩, ⟨some 37, .pick (.tmp 26) (.tmp 36) (.val (.bool false)), none, 65535⟩] false) (.cond (.tmp 37) (.region [⟨some 10, .assign (.val (.int .i64 64)), none, 0⟩] false) (.skip))) (.seq (.seq (.region [⟨some 38, .move (.tmp 8), none, 0⟩, ⟨some 39, .move (.tmp 2), none, 0⟩, ⟨some 40, .eq false (.num) (.tmp 38) (.tmp 39), none, 3⟩] false) (.cond (.tmp 40) (.region [⟨some 41, .move (.tmp 3), none, 0⟩, ⟨some 42, .min [(.tmp 41), (.val (.int .i64 64))], none, 1⟩, ⟨some 43, .max [(.val (.int .i64 0)), (.tmp 42)], none, 3⟩, ⟨some 10, .assign (.tmp 43), none, 7⟩] false) (.skip))) (.region [⟨some 44, .move (.tmp 0), none, 0⟩, ⟨some 45, .nilCheck (.tmp 44), none, 1⟩, ⟨some 46, .fieldAddr 0 (.tmp 45), none, 3⟩, ⟨some 47, .load false 1 (.tmp 46), none, 7⟩, ⟨some 48, .fieldAddr 0 (.tmp 9), none, 0⟩, ⟨some 49, .load false 1 (.tmp 48), none, 16⟩, ⟨some 50, .indexAddr none 64 (.tmp 47) (.tmp 49), none, 63⟩, ⟨some 51, .move (.tmp 10), none, 0⟩, ⟨some 52, .slice (.arr 64) (.tmp 50) none (some (.tmp 51)) none, none, 255⟩, ⟨some 53, .fieldAddr 1 (.tmp 9), none, 0⟩, ⟨some 54, .slice (.arr 64) (.tmp 53) none none none, none, 512⟩, ⟨some 55, .copy 1 (.tmp 52) (.tmp 54), none, 2047⟩] true)))))) (.region [⟨some 56, .bin (.add) (.tmp 16) (.val (.int .i64 1)), none, 0⟩, ⟨some 16, .move (.tmp 56), none, 1⟩] false))))
/-- A bit of a byte, as the program asks for it. -/
def bitP (x j : Nat) : Bool := (IntKind.u8.wrap (BitVec.ofInt IntKind.u8.bits ((x : Int).fdiv (2 ^ min j IntKind.u8.bits)) &&& BitVec.ofInt IntKind.u8.bits 1).toNat) == 1
def cut (a : Int) : Nat := (max 0 (min a 64)).toNat
/-- What is left of a cell. -/
def tear (n : Nat) (old new : List Nat) : List Nat := new.take n ++ old.drop n
def SFa (kp : List Nat) (torn at' : Int) (es : List (List Nat)) (fz : Bool) (ls : List (Nat × List Nat)) (off : Bool) (left : Int) (i : Nat) : St :=
  ⟨(q0 :: .isl 0 1 (byN kp) :: .int .i64 torn :: .int .i64 at' :: .gone 0 :: .gone 0 :: .gone 0 :: .gone 0 :: .gone 0 :: .gone 0 :: .gone 0 :: q0 :: q0 :: .ptr (.obj 0 1) :: .srf (.obj 0 1) 0 65 0 ls.length :: .int .i64 ls.length :: .int .i64 i :: .gone 0 :: .gone 0 :: .gone 0 :: .gone 0 :: .gone 0 :: .gone 0 :: .gone 0 :: .gone 0 :: .gone 0 :: .gone 0 :: .gone 0 :: .gone 0 :: .gone 0 :: .gone 0 :: .gone 0 :: .gone 0 :: .gone 0 :: .gone 0 :: .gone 0 :: .gone 0 :: .gone 0 :: .gone 0 :: .gone 0 :: .gone 0 :: .gone 0 :: .gone 0 :: .gone 0 :: .gone 0 :: .gone 0 :: .gone 0 :: .gone 0 :: .gone 0 :: .gone 0 :: .gone 0 :: .gone 0 :: .gone 0 :: .gone 0 :: .gone 0 :: .gone 0 :: .gone 0 :: .gone 0 :: .gone 0 :: .gone 0 :: .gone 0 :: .gone 0 :: .gone 0 :: .gone 0 :: .gone 0 :: .gone 0 :: []), [some (plateO es fz ls off left), none]⟩
section
variable (G : VProg)
theorem setCells_tear {old new : List Nat} {n : Nat} (h : n ≤ new.length) : V.setCells (cellV old) 0 (byN (new.take n)) = cellV (tear n old new) := by
  show V.agg (splice (byN old) 0 (byN (new.take n))) = _
  simp only [splice, List.take_zero, List.nil_append, Nat.zero_add, byN_len, List.length_take, Nat.min_eq_left h, byN_drop, tear, cellV, byN_app]
theorem fa_round (kp : List Nat) (torn at' : Int) (es fz ls off left) (he : ∀ c ∈ es, c.length = 64) (hl : ∀ w ∈ ls, w.1 < es.length ∧ w.2.length = 64) (hn : ls.length < 2 ^ 40) (i : Nat) (hi : i < ls.length) (b1 b2 b3 : Bool)
    (hb1 : decide ((((i / 8 : Nat) : Int)) < ((byN kp).length : Int)) = b1) (hb2 : b1 = true → bitP (kp.getD (i / 8) 0) (i % 8) = b2) (hb3 : ((i : Int) == torn) = b3) (mt : Nat) (hmt : cut at' = mt)
    (Q : Out → St → Prop) (J : Nat → Prop) (hj : J (i + 1)) (S : Nat → St) (hS : S (i + 1) = SFa kp torn at' (es.set ls[i].1 (tear (if b3 then mt else if b1 && b2 then 64 else 0) es[ls[i].1]! ls[i].2)) fz ls off left (i + 1)) :
    WL G 1 bodyFa (SFa kp torn at' es fz ls off left i) (Qrnd (some [0, 1, 2, 3, 11, 12, 13, 14, 15, 16]) 1 S J Q) := by
  have hlt : decide ((i : Int) < ls.length) = true := by simp; omega
  have hw0 := hl ls[i] (List.getElem_mem _)
  have hw := hw0
  have hw2 := hw0.2
  have h1 : (ls.map writeV)[i]? = some (writeV ls[i]) := by simp [hi]
  have eb : es[ls[i].1]! = es[ls[i].1] := by simp [hw.1]
  have h2 : (es.map cellV)[ls[i].1]? = some (cellV es[ls[i].1]) := by simp [hw.1]
  have hinc := inc64 i (by omega)
  have h64 : es[ls[i].1].length = 64 := he _ (List.getElem_mem _)
  have hq : IntKind.i64.wrap ((i : Int).tdiv 8) = ((i / 8 : Nat) : Int) := by
    rw [Int.tdiv_eq_ediv_of_nonneg (by omega), wrapi64 _ (by omega) (by omega)]; rfl
  have hr : (i : Int).tmod 8 = ((i % 8 : Nat) : Int) := by rw [Int.tmod_eq_emod_of_nonneg (by omega)]; rfl
  have hx : (if (if (64 : Int) < at' then (64 : Int) else at') > 0 then (if (64 : Int) < at' then (64 : Int) else at') else 0) = (mt : Int) := by
    rw [← hmt]; unfold cut; split <;> split <;> omega
  have hm64 : mt ≤ 64 := by rw [← hmt]; unfold cut; omega
  have e0 : ∀ x, es.set ls[i].1 (tear 0 es[ls[i].1] x) = es := fun x => by simp [tear]
  have e64 : ∀ n, n ≤ 64 → (List.map cellV es).set ls[i].1 ((cellV es[ls[i].1]).setCells 0 (byN (ls[i].2.take n))) = List.map cellV (es.set ls[i].1 (tear n es[ls[i].1] ls[i].2)) := fun n h => by
    rw [setCells_tear (by omega), ← List.map_set]
  have e65 := e64 64 (Nat.le_refl _)
  rw [List.take_of_length_le (by omega)] at e65
  have hmm : Nat.min 64 mt = mt := Nat.min_eq_right hm64
  rw [eb] at hS
  have hkp : b1 = true → (byN kp)[i / 8]? = some (.int .u8 ((kp.getD (i / 8) 0 : Nat) : Int)) := by
    intro h
    rw [h] at hb1
    have : i / 8 < kp.length := by have := of_decide_eq_true hb1; rw [byN_len] at this; omega
    simp [byN, this]
  rw [byN_len] at hb1
  unfold bitP at hb2
  have h66 : ((64 : Nat) = 0) = False := by simp
  have h67 : Nat.min 64 64 = 64 := rfl
  have e66 := e64 64 (Nat.le_refl _)
  have e67 := e64 mt hm64
  clear eb e64 he hl hn
  obtain ⟨p, hz⟩ : ∃ p : Prop, (mt = 0) = p ∧ (p = True ∨ p = False) := by
    by_cases h : mt = 0
    · exact ⟨True, by simp [h], .inl rfl⟩
    · exact ⟨False, by simp [h], .inr rfl⟩
  obtain ⟨hz, hp⟩ := hz
  have hz0 : p = True → mt = 0 := by intro h; rw [h] at hz; simpa using hz
  have tw := take_by hw2
  have t64 := take_by h64
  have dw := drop_by hw2
  have d64 := drop_by h64
  have hmz := Nat.min_zero
  rcases hp with rfl | rfl
  all_goals try (obtain rfl := hz0 rfl)
  all_goals cases b1
  all_goals first
    | replace hb2 := hb2 rfl
    | skip
  all_goals first
    | replace hkp := hkp rfl
    | skip
  all_goals cases b2 <;> cases b3
  all_goals cases fz
  all_goals simp only [Bool.false_and, Bool.and_false, Bool.and_self, Bool.false_eq_true, if_true, if_false, e0] at hS
  all_goals
    unfold SFa bodyFa
    refine runV (And.intro hlt (And.intro hinc (And.intro hw2 (And.intro h64 (And.intro h1 (And.intro h2 (And.intro tw (And.intro t64 (And.intro dw (And.intro hq (And.intro hr (And.intro hb1 (And.intro hb2 (And.intro hb3 (And.intro hkp (And.intro hx (And.intro hmm h67))))))))))))))))) (And.intro hz h66) ?_
    (try rw [e67]); (try rw [e66]); refine Qr_n (i + 1) ?_ hj; rw [hS]; kernel_rfl
end
def many (kp : List Nat) (torn at' : Int) (k : Nat) : Nat := if ((k : Int) == torn) = true then cut at' else if (decide (((k / 8 : Nat) : Int) < ((byN kp).length : Int)) && bitP (kp.getD (k / 8) 0) (k % 8)) = true then 64 else 0
def flA (kp : List Nat) (torn at' : Int) (es : List (List Nat)) (ls : List (Nat × List Nat)) : Nat → List (List Nat)
  | 0 => es
  | i + 1 => match ls[i]? with
    | some w => (flA kp torn at' es ls i).set w.1 (tear (many kp torn at' i) (flA kp torn at' es ls i)[w.1]! w.2)
    | none => flA kp torn at' es ls i
theorem flA_len (kp : List Nat) (torn at' : Int) (es : List (List Nat)) (ls : List (Nat × List Nat)) (i : Nat) : (flA kp torn at' es ls i).length = es.length := by
  induction i with
  | zero => rfl
  | succ i ih => simp only [flA]; split <;> simp [ih]
theorem tear_len {n : Nat} {old new : List Nat} (h1 : old.length = 64) (h2 : new.length = 64) : (tear n old new).length = 64 := by simp [tear, h1, h2]; omega
theorem flA_64 {kp : List Nat} {torn at' : Int} {es : List (List Nat)} {ls : List (Nat × List Nat)} (he : ∀ c ∈ es, c.length = 64) (hl : ∀ w ∈ ls, w.1 < es.length ∧ w.2.length = 64) (i : Nat) : ∀ c ∈ flA kp torn at' es ls i, c.length = 64 := by
  induction i with
  | zero => exact he
  | succ i ih =>
    simp only [flA]
    split
    · rename_i w hw
      have hw' := hl w (List.mem_of_getElem? hw)
      intro c hc
      rcases List.mem_or_eq_of_mem_set hc with h | h
      · exact ih c h
      · rw [h]
        refine tear_len ?_ hw'.2
        have hlt : w.1 < (flA kp torn at' es ls i).length := by rw [flA_len]; exact hw'.1
        rw [getElem!_pos (flA kp torn at' es ls i) w.1 hlt]
        exact ih _ (List.getElem_mem _)
    · exact ih
section
variable (G : VProg)
theorem fail (hG : G 23 = some (.code v23)) (kp : List Nat) (torn at' : Int) (es fz ls off left) (he : ∀ c ∈ es, c.length = 64) (hl : ∀ w ∈ ls, w.1 < es.length ∧ w.2.length = 64) (hn : ls.length < 2 ^ 40) :
    lim G 23 [q0, .isl 0 1 (byN kp), .int .i64 torn, .int .i64 at'] [plateO es fz ls off left] = some (.tup [], [plateO (flA kp torn at' es ls ls.length) false [] false (-1)]) := by
  cases fz
  case false =>
    refine lim_fun hG (h := runV trivial trivial ?_)
    refine WL_loop (fun i => SFa kp torn at' (flA kp torn at' es ls i) false ls off left i) (fun i => i ≤ ls.length) (fun i => ls.length - i) ?_ 0 _ (Nat.zero_le _) (by kernel_rfl)
    intro i hi
    by_cases h : i < ls.length
    · refine fa_round G kp torn at' _ false ls off left (flA_64 he hl i) (fun w hw => by rw [flA_len]; exact hl w hw) hn i h _ _ _ rfl (fun _ => rfl) rfl _ rfl _ _ ⟨by omega, by omega⟩ _ ?_
      simp only [flA, List.getElem?_eq_getElem h, many]
    · obtain rfl : i = ls.length := by omega
      have hlt : decide ((ls.length : Int) < ls.length) = false := by simp
      unfold SFa
      refine runV hlt trivial ?_
      refine Qr_x ?_
      refine Qb_x (σ1 := ⟨(q0 :: .gone 0 :: .gone 0 :: .gone 0 :: .gone 0 :: .gone 0 :: .gone 0 :: .gone 0 :: .gone 0 :: .gone 0 :: .gone 0 :: .gone 0 :: .gone 0 :: .gone 0 :: .gone 0 :: .gone 0 :: .gone 0 :: .gone 0 :: .gone 0 :: .gone 0 :: .gone 0 :: .gone 0 :: .gone 0 :: .gone 0 :: .gone 0 :: .gone 0 :: .gone 0 :: .gone 0 :: .gone 0 :: .gone 0 :: .gone 0 :: .gone 0 :: .gone 0 :: .gone 0 :: .gone 0 :: .gone 0 :: .gone 0 :: .gone 0 :: .gone 0 :: .gone 0 :: .gone 0 :: .gone 0 :: .gone 0 :: .gone 0 :: .gone 0 :: .gone 0 :: .gone 0 :: .gone 0 :: .gone 0 :: .gone 0 :: .gone 0 :: .gone 0 :: .gone 0 :: .gone 0 :: .gone 0 :: .gone 0 :: .gone 0 :: .gone 0 :: .gone 0 :: .gone 0 :: .gone 0 :: .gone 0 :: .gone 0 :: .gone 0 :: .gone 0 :: .gone 0 :: []), [some (plateO (flA kp torn at' es ls ls.length) false ls off left), none]⟩) (by kernel_rfl) ?_
      exact runV trivial trivial trivial
  case true =>
    refine lim_fun hG (h := runV trivial trivial ?_)
    refine WL_loop (fun i => SFa kp torn at' (flA kp torn at' es ls i) true ls off left i) (fun i => i ≤ ls.length) (fun i => ls.length - i) ?_ 0 _ (Nat.zero_le _) (by kernel_rfl)
    intro i hi
    by_cases h : i < ls.length
    · refine fa_round G kp torn at' _ true ls off left (flA_64 he hl i) (fun w hw => by rw [flA_len]; exact hl w hw) hn i h _ _ _ rfl (fun _ => rfl) rfl _ rfl _ _ ⟨by omega, by omega⟩ _ ?_
      simp only [flA, List.getElem?_eq_getElem h, many]
    · obtain rfl : i = ls.length := by omega
      have hlt : decide ((ls.length : Int) < ls.length) = false := by simp
      unfold SFa
      refine runV hlt trivial ?_
      refine Qr_x ?_
      refine Qb_x (σ1 := ⟨(q0 :: .gone 0 :: .gone 0 :: .gone 0 :: .gone 0 :: .gone 0 :: .gone 0 :: .gone 0 :: .gone 0 :: .gone 0 :: .gone 0 :: .gone 0 :: .gone 0 :: .gone 0 :: .gone 0 :: .gone 0 :: .gone 0 :: .gone 0 :: .gone 0 :: .gone 0 :: .gone 0 :: .gone 0 :: .gone 0 :: .gone 0 :: .gone 0 :: .gone 0 :: .gone 0 :: .gone 0 :: .gone 0 :: .gone 0 :: .gone 0 :: .gone 0 :: .gone 0 :: .gone 0 :: .gone 0 :: .gone 0 :: .gone 0 :: .gone 0 :: .gone 0 :: .gone 0 :: .gone 0 :: .gone 0 :: .gone 0 :: .gone 0 :: .gone 0 :: .gone 0 :: .gone 0 :: .gone 0 :: .gone 0 :: .gone 0 :: .gone 0 :: .gone 0 :: .gone 0 :: .gone 0 :: .gone 0 :: .gone 0 :: .gone 0 :: .gone 0 :: .gone 0 :: .gone 0 :: .gone 0 :: .gone 0 :: .gone 0 :: .gone 0 :: .gone 0 :: .gone 0 :: []), [some (plateO (flA kp torn at' es ls ls.length) true ls off left), none]⟩) (by kernel_rfl) ?_
      exact runV trivial trivial trivial
end
end P1
end Go.Vq

