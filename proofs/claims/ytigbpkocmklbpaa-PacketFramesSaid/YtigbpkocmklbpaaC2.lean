/- The V-level machine, run on values that are not known (no law of Go is stated here). -/
import Derived.Test.YtigbpkocmklbpaaC1
set_option linter.unusedVariables false
set_option linter.unusedSimpArgs false
set_option linter.unusedSectionVars false
namespace Go.Vq
namespace S8
open Go S2 S3 S4 S5 S6 S7
set_option maxRecDepth 1000000
/-- packhorse/packhorselaw06.PacketNames -/
def b12 : VCode :=
  .seq
    (.region [{ dst := (some 0), op := .assign (.val (.bool false)), guard := none, before := 0 }] false)
    (.seq
      (.region [{ dst := (some 12), op := .makeSlice 1 1 (.int .u8 0) (.val (.int .i64 65537)) (.val (.int .i64 65537)), guard := none, before := 0 },
        { dst := (some 13), op := .build [(.int .u8 0), (.nilS 1)] [(1, 1, (.tmp 12))], guard := none, before := 1 },
        { dst := (some 14), op := .call true 32 0 [(.tmp 13)], guard := none, before := 3 },
        { dst := (some 11), op := .move (.tmp 14), guard := none, before := 7 },
        { dst := (some 15), op := .extract (.tmp 11) 0, guard := none, before := 15 },
        { dst := (some 16), op := .extract (.tmp 11) 1, guard := none, before := 15 },
        { dst := (some 1), op := .assign (.tmp 15), guard := none, before := 31 },
        { dst := (some 2), op := .assign (.tmp 16), guard := none, before := 127 }] false)
      (.seq
        (.region [{ dst := (some 18), op := .call true 34 0 [(.val (.nilS 1))], guard := none, before := 0 },
          { dst := (some 17), op := .move (.tmp 18), guard := none, before := 1 },
          { dst := (some 19), op := .extract (.tmp 17) 0, guard := none, before := 3 },
          { dst := (some 20), op := .extract (.tmp 17) 1, guard := none, before := 3 },
          { dst := (some 21), op := .extract (.tmp 17) 2, guard := none, before := 3 },
          { dst := (some 3), op := .alloc 0 [(.int .u8 0), (.xsl 0 1 [])], guard := none, before := 0 },
          { dst := none, op := .store 2 (.tmp 3) (.tmp 19), guard := none, before := 39 },
          { dst := (some 4), op := .assign (.tmp 20), guard := none, before := 111 },
          { dst := (some 5), op := .assign (.tmp 21), guard := none, before := 255 }] false)
        (.seq
          (.region [{ dst := (some 23), op := .buildSlice 1 [(.int .u8 0)] [(0, (.val (.int .u8 1)))], guard := none, before := 0 },
            { dst := (some 24), op := .call true 34 1 [(.tmp 23)], guard := none, before := 1 },
            { dst := (some 22), op := .move (.tmp 24), guard := none, before := 3 },
            { dst := (some 25), op := .extract (.tmp 22) 0, guard := none, before := 7 },
            { dst := (some 26), op := .extract (.tmp 22) 1, guard := none, before := 7 },
            { dst := (some 27), op := .extract (.tmp 22) 2, guard := none, before := 7 },
            { dst := (some 6), op := .alloc 1 [(.int .u8 0), (.xsl 0 1 [])], guard := none, before := 0 },
            { dst := none, op := .store 2 (.tmp 6) (.tmp 25), guard := none, before := 79 },
            { dst := (some 7), op := .assign (.tmp 26), guard := none, before := 223 },
            { dst := (some 8), op := .assign (.tmp 27), guard := none, before := 511 }] false)
          (.seq
            (.region [{ dst := (some 28), op := .buildSlice 1 [(.int .u64 0)] [(0, (.val (.int .u64 18446744073709551615)))], guard := none, before := 0 },
              { dst := (some 29), op := .call true 35 2 [(.val (.nilS 1)), (.tmp 28)], guard := none, before := 1 },
              { dst := (some 30), op := .call false 39 2 [(.tmp 29)], guard := none, before := 3 },
              { dst := (some 9), op := .assign (.tmp 30), guard := none, before := 7 }] false)
            (.seq
              (.region [{ dst := (some 31), op := .move (.tmp 9), guard := none, before := 0 },
                { dst := (some 32), op := .call false 40 6 [(.tmp 31), (.val (.int .u64 18446744073709551615))], guard := none, before := 1 },
                { dst := (some 10), op := .assign (.tmp 32), guard := none, before := 3 }] false)
              (.seq
                (.region [{ dst := (some 33), op := .call true 31 6 [], guard := none, before := 0 },
                  { dst := (some 34), op := .move (.tmp 33), guard := none, before := 1 },
                  { dst := (some 35), op := .pick (.tmp 34) (.val (.bool true)) (.val (.bool false)), guard := none, before := 3 },
                  { dst := (some 36), op := .move (.tmp 35), guard := none, before := 7 },
                  { dst := (some 37), op := .pick (.tmp 36) (.val (.bool true)) (.val (.bool false)), guard := none, before := 15 },
                  { dst := (some 38), op := .move (.tmp 37), guard := none, before := 31 },
                  { dst := (some 39), op := .pick (.tmp 38) (.val (.bool true)) (.val (.bool false)), guard := none, before := 63 },
                  { dst := (some 40), op := .move (.tmp 39), guard := none, before := 127 },
                  { dst := (some 41), op := .pick (.tmp 40) (.val (.bool true)) (.val (.bool false)), guard := none, before := 255 },
                  { dst := (some 42), op := .move (.tmp 41), guard := none, before := 511 },
                  { dst := (some 43), op := .move (.tmp 2), guard := (some (42, true)), before := 1023 },
                  { dst := (some 44), op := .eq false (.num) (.tmp 43) (.val (.int .i64 63)), guard := (some (42, true)), before := 2047 },
                  { dst := (some 45), op := .pick (.tmp 42) (.tmp 44) (.val (.bool false)), guard := none, before := 4095 },
                  { dst := (some 46), op := .move (.tmp 45), guard := none, before := 8191 },
                  { dst := (some 47), op := .move (.tmp 5), guard := (some (46, true)), before := 16383 },
                  { dst := (some 48), op := .eq false (.num) (.tmp 47) (.val (.int .i64 61)), guard := (some (46, true)), before := 32767 },
                  { dst := (some 49), op := .pick (.tmp 46) (.tmp 48) (.val (.bool false)), guard := none, before := 65535 },
                  { dst := (some 50), op := .move (.tmp 49), guard := none, before := 131071 },
                  { dst := (some 51), op := .move (.tmp 8), guard := (some (50, true)), before := 262143 },
                  { dst := (some 52), op := .eq false (.num) (.tmp 51) (.val (.int .i64 62)), guard := (some (50, true)), before := 524287 },
                  { dst := (some 53), op := .pick (.tmp 50) (.tmp 52) (.val (.bool false)), guard := none, before := 1048575 },
                  { dst := (some 54), op := .move (.tmp 53), guard := none, before := 2097151 },
                  { dst := (some 55), op := .move (.tmp 10), guard := (some (54, true)), before := 4194303 },
                  { dst := (some 56), op := .eq false (.num) (.tmp 55) (.val (.int .u64 18446744073709551615)), guard := (some (54, true)), before := 8388607 },
                  { dst := (some 57), op := .pick (.tmp 54) (.tmp 56) (.val (.bool false)), guard := none, before := 16777215 },
                  { dst := (some 58), op := .move (.tmp 57), guard := none, before := 33554431 },
                  { dst := (some 59), op := .move (.tmp 9), guard := (some (58, true)), before := 67108863 },
                  { dst := (some 60), op := .call false 41 6 [(.tmp 59)], guard := (some (58, true)), before := 134217727 },
                  { dst := (some 61), op := .pick (.tmp 58) (.tmp 60) (.val (.bool false)), guard := none, before := 268435455 },
                  { dst := (some 62), op := .move (.tmp 61), guard := none, before := 536870911 },
                  { dst := (some 63), op := .buildSlice 1 [(.int .u64 0)] [(0, (.val (.int .u64 0)))], guard := (some (62, true)), before := 1073741823 },
                  { dst := (some 64), op := .call true 35 6 [(.val (.nilS 1)), (.tmp 63)], guard := (some (62, true)), before := 2147483647 },
                  { dst := (some 65), op := .len (.slc 1) (.tmp 64), guard := (some (62, true)), before := 4294967295 },
                  { dst := (some 66), op := .eq false (.num) (.tmp 65) (.val (.int .i64 1)), guard := (some (62, true)), before := 8589934591 },
                  { dst := (some 67), op := .pick (.tmp 62) (.tmp 66) (.val (.bool false)), guard := none, before := 17179869183 },
                  { dst := (some 0), op := .assign (.tmp 67), guard := none, before := 34359738367 }] false)
                (.ret)))))))
def v12 : VFunc := { nparams := 0, ntmps := 68, nsites := 6, results := [.tmp 0], body := b12 }
/-- packhorse/packet.Frame -/
def b32 : VCode :=
  .seq
    (.region [{ dst := (some 1), op := .box 0 2 (.tmp 0), guard := none, before := 0 },
      { dst := (some 2), op := .assign (.val (.nilS 1)), guard := none, before := 0 },
      { dst := (some 3), op := .assign (.val (.int .i64 0)), guard := none, before := 2 }] false)
    (.seq
      (.seq
        (.region [{ dst := (some 6), op := .fieldAddr 1 (.tmp 1), guard := none, before := 0 },
          { dst := (some 7), op := .load false 1 (.tmp 6), guard := none, before := 1 },
          { dst := (some 8), op := .len (.slc 1) (.tmp 7), guard := none, before := 3 },
          { dst := (some 9), op := .bin (.gtr) (.tmp 8) (.val (.int .i64 65536)), guard := none, before := 7 }] false)
        (.cond (.tmp 9)
          (.seq
            (.region [{ dst := (some 2), op := .assign (.val (.nilS 1)), guard := none, before := 0 },
              { dst := (some 3), op := .assign (.val (.int .i64 63)), guard := none, before := 1 }] false)
            (.ret))
          (.skip)))
      (.seq
        (.region [{ dst := (some 10), op := .fieldAddr 0 (.tmp 1), guard := none, before := 0 },
          { dst := (some 11), op := .load false 1 (.tmp 10), guard := none, before := 1 },
          { dst := (some 12), op := .buildSlice 1 [(.int .u8 0), (.int .u8 0), (.int .u8 0)] [(0, (.val (.int .u8 167))), (1, (.val (.int .u8 1))), (2, (.tmp 11))], guard := none, before := 3 },
          { dst := (some 13), op := .fieldAddr 1 (.tmp 1), guard := none, before := 0 },
          { dst := (some 14), op := .load false 1 (.tmp 13), guard := none, before := 8 },
          { dst := (some 15), op := .len (.slc 1) (.tmp 14), guard := none, before := 24 },
          { dst := (some 16), op := .conv (.int (.u64)) (.tmp 15), guard := none, before := 56 },
          { dst := (some 17), op := .buildSlice 1 [(.int .u64 0)] [(0, (.tmp 16))], guard := none, before := 120 },
          { dst := (some 18), op := .call true 35 1 [(.tmp 12), (.tmp 17)], guard := none, before := 255 },
          { dst := (some 19), op := .fieldAddr 1 (.tmp 1), guard := none, before := 0 },
          { dst := (some 20), op := .load false 1 (.tmp 19), guard := none, before := 512 },
          { dst := (some 21), op := .append 1 1 (.tmp 18) (.tmp 20), guard := none, before := 2047 },
          { dst := (some 4), op := .assign (.tmp 21), guard := none, before := 4095 }] true)
        (.seq
          (.region [{ dst := (some 22), op := .move (.tmp 4), guard := none, before := 0 },
            { dst := (some 23), op := .buildSlice 1 [(.isl 0 1 [])] [(0, (.tmp 22))], guard := none, before := 1 },
            { dst := (some 24), op := .call true 49 1 [(.tmp 23)], guard := none, before := 3 },
            { dst := (some 5), op := .assign (.tmp 24), guard := none, before := 7 }] false)
          (.seq
            (.region [{ dst := (some 25), op := .move (.tmp 4), guard := none, before := 0 },
              { dst := (some 26), op := .move (.tmp 5), guard := none, before := 0 },
              { dst := (some 27), op := .conv (.int (.u8)) (.tmp 26), guard := none, before := 2 },
              { dst := (some 28), op := .move (.tmp 5), guard := none, before := 0 },
              { dst := (some 29), op := .bin (.shr) (.tmp 28) (.val (.int .u64 8)), guard := none, before := 8 },
              { dst := (some 30), op := .conv (.int (.u8)) (.tmp 29), guard := none, before := 24 },
              { dst := (some 31), op := .move (.tmp 5), guard := none, before := 0 },
              { dst := (some 32), op := .bin (.shr) (.tmp 31) (.val (.int .u64 16)), guard := none, before := 64 },
              { dst := (some 33), op := .conv (.int (.u8)) (.tmp 32), guard := none, before := 192 },
              { dst := (some 34), op := .move (.tmp 5), guard := none, before := 0 },
              { dst := (some 35), op := .bin (.shr) (.tmp 34) (.val (.int .u64 24)), guard := none, before := 512 },
              { dst := (some 36), op := .conv (.int (.u8)) (.tmp 35), guard := none, before := 1536 },
              { dst := (some 37), op := .buildSlice 1 [(.int .u8 0), (.int .u8 0), (.int .u8 0), (.int .u8 0)] [(0, (.tmp 27)), (1, (.tmp 30)), (2, (.tmp 33)), (3, (.tmp 36))], guard := none, before := 4094 },
              { dst := (some 38), op := .append 1 1 (.tmp 25) (.tmp 37), guard := none, before := 8191 },
              { dst := (some 2), op := .assign (.tmp 38), guard := none, before := 16383 },
              { dst := (some 3), op := .assign (.val (.int .i64 0)), guard := none, before := 32767 }] false)
            (.ret)))))
def v32 : VFunc := { nparams := 1, ntmps := 39, nsites := 1, results := [.tmp 2, .tmp 3], body := b32 }
/-- packhorse/packhorseref06.Frame -/
def b33 : VCode :=
  .seq
    (.region [{ dst := (some 1), op := .box 0 2 (.tmp 0), guard := none, before := 0 },
      { dst := (some 2), op := .assign (.val (.nilS 1)), guard := none, before := 0 },
      { dst := (some 3), op := .assign (.val (.int .i64 0)), guard := none, before := 2 }] false)
    (.seq
      (.seq
        (.region [{ dst := (some 5), op := .fieldAddr 1 (.tmp 1), guard := none, before := 0 },
          { dst := (some 6), op := .load false 1 (.tmp 5), guard := none, before := 1 },
          { dst := (some 7), op := .len (.slc 1) (.tmp 6), guard := none, before := 3 },
          { dst := (some 8), op := .bin (.gtr) (.tmp 7) (.val (.int .i64 65536)), guard := none, before := 7 }] false)
        (.cond (.tmp 8)
          (.seq
            (.region [{ dst := (some 2), op := .assign (.val (.nilS 1)), guard := none, before := 0 },
              { dst := (some 3), op := .assign (.val (.int .i64 63)), guard := none, before := 1 }] false)
            (.ret))
          (.skip)))
      (.seq
        (.region [{ dst := (some 9), op := .fieldAddr 0 (.tmp 1), guard := none, before := 0 },
          { dst := (some 10), op := .load false 1 (.tmp 9), guard := none, before := 1 },
          { dst := (some 11), op := .buildSlice 1 [(.int .u8 0), (.int .u8 0), (.int .u8 0)] [(0, (.val (.int .u8 167))), (1, (.val (.int .u8 1))), (2, (.tmp 10))], guard := none, before := 3 },
          { dst := (some 12), op := .fieldAddr 1 (.tmp 1), guard := none, before := 0 },
          { dst := (some 13), op := .load false 1 (.tmp 12), guard := none, before := 8 },
          { dst := (some 14), op := .len (.slc 1) (.tmp 13), guard := none, before := 24 },
          { dst := (some 15), op := .conv (.int (.u64)) (.tmp 14), guard := none, before := 56 },
          { dst := (some 16), op := .call true 36 1 [(.tmp 15)], guard := none, before := 120 },
          { dst := (some 17), op := .append 1 1 (.tmp 11) (.tmp 16), guard := none, before := 255 },
          { dst := (some 4), op := .assign (.tmp 17), guard := none, before := 511 }] true)
        (.seq
          (.region [{ dst := (some 18), op := .move (.tmp 4), guard := none, before := 0 },
            { dst := (some 19), op := .fieldAddr 1 (.tmp 1), guard := none, before := 0 },
            { dst := (some 20), op := .load false 1 (.tmp 19), guard := none, before := 2 },
            { dst := (some 21), op := .append 1 1 (.tmp 18) (.tmp 20), guard := none, before := 7 },
            { dst := (some 4), op := .assign (.tmp 21), guard := none, before := 15 }] false)
          (.seq
            (.region [{ dst := (some 22), op := .move (.tmp 4), guard := none, before := 0 },
              { dst := (some 23), op := .move (.tmp 4), guard := none, before := 0 },
              { dst := (some 24), op := .call true 51 1 [(.tmp 23)], guard := none, before := 2 },
              { dst := (some 25), op := .call true 50 1 [(.tmp 24)], guard := none, before := 6 },
              { dst := (some 26), op := .append 1 1 (.tmp 22) (.tmp 25), guard := none, before := 15 },
              { dst := (some 2), op := .assign (.tmp 26), guard := none, before := 31 },
              { dst := (some 3), op := .assign (.val (.int .i64 0)), guard := none, before := 63 }] false)
            (.ret)))))
def v33 : VFunc := { nparams := 1, ntmps := 27, nsites := 1, results := [.tmp 2, .tmp 3], body := b33 }
/-- packhorse/check.Of -/
def b49 : VCode :=
  .seq
    (.region [{ dst := (some 2), op := .assign (.val (.int .u32 0)), guard := none, before := 0 }] false)
    (.seq
      (.region [{ dst := (some 3), op := .assign (.val (.int .u32 4294967295)), guard := none, before := 0 }] false)
      (.seq
        (.seq
          (.region [{ dst := (some 8), op := .move (.tmp 0), guard := none, before := 0 },
            { dst := (some 9), op := .len (.slc 1) (.tmp 8), guard := none, before := 1 },
            { dst := (some 10), op := .move (.val (.int .i64 0)), guard := none, before := 0 }] false)
          (.block 0 (some [3]) (.loop (some [0, 3, 8, 9, 10])
              (.seq
                (.region [{ dst := (some 11), op := .bin (.lss) (.tmp 10) (.tmp 9), guard := none, before := 0 }] false)
                (.seq
                  (.cond (.tmp 11)
                    (.skip)
                    (.exit 0))
                  (.seq
                    (.block 1 (some [0, 3, 8, 9, 10]) (.seq
                        (.region [{ dst := (some 12), op := .indexAddr none 1 (.tmp 8) (.tmp 10), guard := none, before := 0 },
                          { dst := (some 13), op := .load false 1 (.tmp 12), guard := none, before := 1 },
                          { dst := (some 5), op := .assign (.tmp 13), guard := none, before := 3 }] false)
                        (.seq
                          (.region [{ dst := (some 14), op := .move (.tmp 5), guard := none, before := 0 },
                            { dst := (some 15), op := .len (.slc 1) (.tmp 14), guard := none, before := 1 },
                            { dst := (some 16), op := .move (.val (.int .i64 0)), guard := none, before := 0 }] false)
                          (.block 2 (some [0, 3, 8, 9, 10]) (.loop (some [0, 3, 5, 8, 9, 10, 12, 13, 14, 15, 16])
                              (.seq
                                (.region [{ dst := (some 17), op := .bin (.lss) (.tmp 16) (.tmp 15), guard := none, before := 0 }] false)
                                (.seq
                                  (.cond (.tmp 17)
                                    (.skip)
                                    (.exit 2))
                                  (.seq
                                    (.block 3 none (.seq
                                        (.region [{ dst := (some 18), op := .indexAddr none 1 (.tmp 14) (.tmp 16), guard := none, before := 0 },
                                          { dst := (some 19), op := .load false 1 (.tmp 18), guard := none, before := 1 },
                                          { dst := (some 7), op := .assign (.tmp 19), guard := none, before := 3 }] false)
                                        (.region [{ dst := (some 20), op := .move (.tmp 3), guard := none, before := 0 },
                                          { dst := (some 21), op := .move (.tmp 7), guard := none, before := 0 },
                                          { dst := (some 22), op := .conv (.int (.u32)) (.tmp 21), guard := none, before := 2 },
                                          { dst := (some 23), op := .bin (.xor) (.tmp 20) (.tmp 22), guard := none, before := 7 },
                                          { dst := (some 24), op := .call true 55 0 [(.tmp 23), (.val (.int .i64 8))], guard := none, before := 15 },
                                          { dst := (some 3), op := .assign (.tmp 24), guard := none, before := 31 }] false)))
                                    (.region [{ dst := (some 25), op := .bin (.add) (.tmp 16) (.val (.int .i64 1)), guard := none, before := 0 },
                                      { dst := (some 16), op := .move (.tmp 25), guard := none, before := 1 }] false)))))))))
                    (.region [{ dst := (some 26), op := .bin (.add) (.tmp 10) (.val (.int .i64 1)), guard := none, before := 0 },
                      { dst := (some 10), op := .move (.tmp 26), guard := none, before := 1 }] false)))))))
        (.seq
          (.region [{ dst := (some 27), op := .move (.tmp 3), guard := none, before := 0 },
            { dst := (some 28), op := .un (.xor) (.tmp 27), guard := none, before := 1 },
            { dst := (some 2), op := .assign (.tmp 28), guard := none, before := 3 }] false)
          (.ret))))
def v49 : VFunc := { nparams := 1, ntmps := 29, nsites := 0, results := [.tmp 2], body := b49 }
/-- packhorse/packhorseref06.Four -/
def b50 : VCode :=
  .seq
    (.region [{ dst := (some 2), op := .assign (.val (.nilS 1)), guard := none, before := 0 }] false)
    (.seq
      (.region [{ dst := (some 3), op := .move (.tmp 0), guard := none, before := 0 },
        { dst := (some 4), op := .bin (.rem) (.tmp 3) (.val (.int .u32 256)), guard := none, before := 1 },
        { dst := (some 5), op := .conv (.int (.u8)) (.tmp 4), guard := none, before := 3 },
        { dst := (some 6), op := .move (.tmp 0), guard := none, before := 0 },
        { dst := (some 7), op := .bin (.quo) (.tmp 6) (.val (.int .u32 256)), guard := none, before := 8 },
        { dst := (some 8), op := .bin (.rem) (.tmp 7) (.val (.int .u32 256)), guard := none, before := 24 },
        { dst := (some 9), op := .conv (.int (.u8)) (.tmp 8), guard := none, before := 56 },
        { dst := (some 10), op := .move (.tmp 0), guard := none, before := 0 },
        { dst := (some 11), op := .bin (.quo) (.tmp 10) (.val (.int .u32 65536)), guard := none, before := 128 },
        { dst := (some 12), op := .bin (.rem) (.tmp 11) (.val (.int .u32 256)), guard := none, before := 384 },
        { dst := (some 13), op := .conv (.int (.u8)) (.tmp 12), guard := none, before := 896 },
        { dst := (some 14), op := .move (.tmp 0), guard := none, before := 0 },
        { dst := (some 15), op := .bin (.quo) (.tmp 14) (.val (.int .u32 16777216)), guard := none, before := 2048 },
        { dst := (some 16), op := .conv (.int (.u8)) (.tmp 15), guard := none, before := 6144 },
        { dst := (some 17), op := .buildSlice 1 [(.int .u8 0), (.int .u8 0), (.int .u8 0), (.int .u8 0)] [(0, (.tmp 5)), (1, (.tmp 9)), (2, (.tmp 13)), (3, (.tmp 16))], guard := none, before := 16383 },
        { dst := (some 2), op := .assign (.tmp 17), guard := none, before := 32767 }] false)
      (.ret))
def v50 : VFunc := { nparams := 1, ntmps := 18, nsites := 0, results := [.tmp 2], body := b50 }
/-- packhorse/packhorseref05.Of -/
def b51 : VCode :=
  .seq
    (.region [{ dst := (some 2), op := .assign (.val (.int .u32 0)), guard := none, before := 0 }] false)
    (.seq
      (.region [{ dst := (some 3), op := .assign (.val (.int .u64 4294967295)), guard := none, before := 0 }] false)
      (.seq
        (.seq
          (.region [{ dst := (some 7), op := .move (.tmp 0), guard := none, before := 0 },
            { dst := (some 8), op := .len (.slc 1) (.tmp 7), guard := none, before := 1 },
            { dst := (some 9), op := .move (.val (.int .i64 0)), guard := none, before := 0 }] false)
          (.block 0 (some [3]) (.loop (some [0, 3, 7, 8, 9])
              (.seq
                (.region [{ dst := (some 10), op := .bin (.lss) (.tmp 9) (.tmp 8), guard := none, before := 0 }] false)
                (.seq
                  (.cond (.tmp 10)
                    (.skip)
                    (.exit 0))
                  (.seq
                    (.block 1 (some [0, 3, 7, 8, 9]) (.seq
                        (.region [{ dst := (some 11), op := .indexAddr none 1 (.tmp 7) (.tmp 9), guard := none, before := 0 },
                          { dst := (some 12), op := .load false 1 (.tmp 11), guard := none, before := 1 },
                          { dst := (some 5), op := .assign (.tmp 12), guard := none, before := 3 }] false)
                        (.seq
                          (.region [{ dst := (some 13), op := .move (.tmp 3), guard := none, before := 0 },
                            { dst := (some 14), op := .move (.tmp 5), guard := none, before := 0 },
                            { dst := (some 15), op := .conv (.int (.u64)) (.tmp 14), guard := none, before := 2 },
                            { dst := (some 16), op := .bin (.xor) (.tmp 13) (.tmp 15), guard := none, before := 7 },
                            { dst := (some 3), op := .assign (.tmp 16), guard := none, before := 15 }] false)
                          (.seq
                            (.region [{ dst := (some 6), op := .assign (.val (.int .i64 0)), guard := none, before := 0 }] false)
                            (.block 2 (some [0, 3, 7, 8, 9]) (.loop (some [0, 3, 6, 7, 8, 9])
                                (.seq
                                  (.seq
                                    (.region [{ dst := (some 17), op := .move (.tmp 6), guard := none, before := 0 },
                                      { dst := (some 18), op := .bin (.lss) (.tmp 17) (.val (.int .i64 8)), guard := none, before := 1 }] false)
                                    (.cond (.tmp 18)
                                      (.skip)
                                      (.exit 2)))
                                  (.seq
                                    (.block 3 none (.region [{ dst := (some 21), op := .move (.tmp 3), guard := none, before := 0 },
                                        { dst := (some 22), op := .call true 56 0 [(.tmp 21)], guard := none, before := 1 },
                                        { dst := (some 3), op := .assign (.tmp 22), guard := none, before := 3 }] false))
                                    (.region [{ dst := (some 19), op := .move (.tmp 6), guard := none, before := 0 },
                                      { dst := (some 20), op := .bin (.add) (.tmp 19) (.val (.int .i64 1)), guard := none, before := 1 },
                                      { dst := (some 6), op := .assign (.tmp 20), guard := none, before := 3 }] false)))))))))
                    (.region [{ dst := (some 23), op := .bin (.add) (.tmp 9) (.val (.int .i64 1)), guard := none, before := 0 },
                      { dst := (some 9), op := .move (.tmp 23), guard := none, before := 1 }] false)))))))
        (.seq
          (.region [{ dst := (some 24), op := .move (.tmp 3), guard := none, before := 0 },
            { dst := (some 25), op := .bin (.sub) (.val (.int .u64 4294967295)) (.tmp 24), guard := none, before := 1 },
            { dst := (some 26), op := .conv (.int (.u32)) (.tmp 25), guard := none, before := 3 },
            { dst := (some 2), op := .assign (.tmp 26), guard := none, before := 7 }] false)
          (.ret))))
def v51 : VFunc := { nparams := 1, ntmps := 27, nsites := 0, results := [.tmp 2], body := b51 }
/-- packhorse/check.halves -/
def b55 : VCode :=
  .seq
    (.region [{ dst := (some 4), op := .assign (.val (.int .u32 0)), guard := none, before := 0 }] false)
    (.seq
      (.seq
        (.region [{ dst := (some 5), op := .move (.tmp 1), guard := none, before := 0 },
          { dst := (some 6), op := .move (.val (.int .i64 0)), guard := none, before := 0 }] false)
        (.block 0 (some [0]) (.loop (some [0, 1, 5, 6])
            (.seq
              (.region [{ dst := (some 7), op := .bin (.lss) (.tmp 6) (.tmp 5), guard := none, before := 0 }] false)
              (.seq
                (.cond (.tmp 7)
                  (.skip)
                  (.exit 0))
                (.seq
                  (.block 1 none (.region [{ dst := (some 8), op := .move (.tmp 0), guard := none, before := 0 },
                      { dst := (some 9), op := .bin (.shr) (.tmp 8) (.val (.int .u64 1)), guard := none, before := 1 },
                      { dst := (some 10), op := .move (.tmp 0), guard := none, before := 0 },
                      { dst := (some 11), op := .bin (.and) (.tmp 10) (.val (.int .u32 1)), guard := none, before := 4 },
                      { dst := (some 12), op := .un (.neg) (.tmp 11), guard := none, before := 12 },
                      { dst := (some 13), op := .bin (.and) (.val (.int .u32 2197175160)) (.tmp 12), guard := none, before := 28 },
                      { dst := (some 14), op := .bin (.xor) (.tmp 9) (.tmp 13), guard := none, before := 63 },
                      { dst := (some 0), op := .assign (.tmp 14), guard := none, before := 127 }] false))
                  (.region [{ dst := (some 15), op := .bin (.add) (.tmp 6) (.val (.int .i64 1)), guard := none, before := 0 },
                    { dst := (some 6), op := .move (.tmp 15), guard := none, before := 1 }] false)))))))
      (.seq
        (.region [{ dst := (some 16), op := .move (.tmp 0), guard := none, before := 0 },
          { dst := (some 4), op := .assign (.tmp 16), guard := none, before := 1 }] false)
        (.ret)))
def v55 : VFunc := { nparams := 2, ntmps := 17, nsites := 0, results := [.tmp 4], body := b55 }
/-- packhorse/packhorseref05.step -/
def b56 : VCode :=
  .seq
    (.region [{ dst := (some 2), op := .assign (.val (.int .u64 0)), guard := none, before := 0 }] false)
    (.seq
      (.seq
        (.region [{ dst := (some 3), op := .move (.tmp 0), guard := none, before := 0 },
          { dst := (some 4), op := .bin (.rem) (.tmp 3) (.val (.int .u64 2)), guard := none, before := 1 },
          { dst := (some 5), op := .eq false (.num) (.tmp 4) (.val (.int .u64 1)), guard := none, before := 3 }] false)
        (.cond (.tmp 5)
          (.seq
            (.region [{ dst := (some 6), op := .move (.tmp 0), guard := none, before := 0 },
              { dst := (some 7), op := .bin (.quo) (.tmp 6) (.val (.int .u64 2)), guard := none, before := 1 },
              { dst := (some 8), op := .bin (.xor) (.tmp 7) (.val (.int .u64 2197175160)), guard := none, before := 3 },
              { dst := (some 2), op := .assign (.tmp 8), guard := none, before := 7 }] false)
            (.ret))
          (.skip)))
      (.seq
        (.region [{ dst := (some 9), op := .move (.tmp 0), guard := none, before := 0 },
          { dst := (some 10), op := .bin (.quo) (.tmp 9) (.val (.int .u64 2)), guard := none, before := 1 },
          { dst := (some 2), op := .assign (.tmp 10), guard := none, before := 3 }] false)
        (.ret)))
def v56 : VFunc := { nparams := 1, ntmps := 11, nsites := 0, results := [.tmp 2], body := b56 }

variable (cal : Callee) (its : FuncId → Iter) (again : Nat → VCode → St → Option (Out × St))
/-! ### numbers -/
theorem xorN {w : Nat} (A B : Nat) (hA : A < 2 ^ w) (hB : B < 2 ^ w) : (BitVec.ofInt w (A : Int) ^^^ BitVec.ofInt w (B : Int)).toNat = A ^^^ B := by
  simp only [BitVec.ofInt_natCast, BitVec.toNat_xor, BitVec.toNat_ofNat, Nat.mod_eq_of_lt hA, Nat.mod_eq_of_lt hB]
theorem andN {w : Nat} (A B : Nat) (hA : A < 2 ^ w) (hB : B < 2 ^ w) : (BitVec.ofInt w (A : Int) &&& BitVec.ofInt w (B : Int)).toNat = A &&& B := by
  simp only [BitVec.ofInt_natCast, BitVec.toNat_and, BitVec.toNat_ofNat, Nat.mod_eq_of_lt hA, Nat.mod_eq_of_lt hB]
theorem orN {w : Nat} (A B : Nat) (hA : A < 2 ^ w) (hB : B < 2 ^ w) : (BitVec.ofInt w (A : Int) ||| BitVec.ofInt w (B : Int)).toNat = A ||| B := by
  simp only [BitVec.ofInt_natCast, BitVec.toNat_or, BitVec.toNat_ofNat, Nat.mod_eq_of_lt hA, Nat.mod_eq_of_lt hB]
theorem wrap32 (n : Nat) (h : n < 2 ^ 32) : IntKind.u32.wrap (n : Int) = n := by
  simp only [IntKind.wrap, IntKind.bits, IntKind.signed]; simp; omega
theorem wrap64 (n : Nat) (h : n < 2 ^ 64) : IntKind.u64.wrap (n : Int) = n := by
  simp only [IntKind.wrap, IntKind.bits, IntKind.signed]; simp; omega
def poly : Nat := 2197175160
/-- One halving on. -/
def stepN (n : Nat) : Nat := if n % 2 = 1 then (n / 2) ^^^ poly else n / 2
theorem stepN_lt (n : Nat) (h : n < 2 ^ 32) : stepN n < 2 ^ 32 := by
  unfold stepN
  split
  · exact Nat.xor_lt_two_pow (by omega) (by decide)
  · omega
def halN : Nat → Nat → Nat
  | 0, n => n
  | k + 1, n => halN k (stepN n)
theorem halN_lt : ∀ (k n : Nat), n < 2 ^ 32 → halN k n < 2 ^ 32
  | 0, n, h => h
  | k + 1, n, h => halN_lt k _ (stepN_lt n h)
def onB (n : Nat) (x : Nat) : Nat := halN 8 (n ^^^ x)
theorem onB_lt (n x : Nat) (h : n < 2 ^ 32) (hx : x < 256) : onB n x < 2 ^ 32 := halN_lt _ _ (Nat.xor_lt_two_pow h (by omega))
def crcN (n : Nat) (l : List Nat) : Nat := l.foldl onB n
theorem crcN_lt : ∀ (l : List Nat) (n : Nat), n < 2 ^ 32 → (∀ x ∈ l, x < 256) → crcN n l < 2 ^ 32
  | [], n, h, _ => h
  | x :: l, n, h, hl => crcN_lt l _ (onB_lt n x h (hl x (by simp))) fun y hy => hl y (by simp [hy])
def crc (l : List Nat) : Nat := 4294967295 - crcN 4294967295 l
def byN (l : List Nat) : List V := l.map fun (x : Nat) => V.int .u8 (x : Int)
/-! ### check.halves -/
def body55 : VCode := (.seq (.region [{ dst := (some 7), op := .bin (.lss) (.tmp 6) (.tmp 5), guard := none, before := 0 }] false) (.seq (.cond (.tmp 7) (.skip) (.exit 0)) (.seq (.block 1 none (.region [{ dst := (some 8), op := .move (.tmp 0), guard := none, before := 0 }, { dst := (some 9), op := .bin (.shr) (.tmp 8) (.val (.int .u64 1)), guard := none, before := 1 }, { dst := (some 10), op := .move (.tmp 0), guard := none, before := 0 }, { dst := (some 11), op := .bin (.and) (.tmp 10) (.val (.int .u32 1)), guard := none, before := 4 }, { dst := (some 12), op := .un (.neg) (.tmp 11), guard := none, before := 12 }, { dst := (some 13), op := .bin (.and) (.val (.int .u32 2197175160)) (.tmp 12), guard := none, before := 28 }, { dst := (some 14), op := .bin (.xor) (.tmp 9) (.tmp 13), guard := none, before := 63 }, { dst := (some 0), op := .assign (.tmp 14), guard := none, before := 127 }] false)) (.region [{ dst := (some 15), op := .bin (.add) (.tmp 6) (.val (.int .i64 1)), guard := none, before := 0 }, { dst := (some 6), op := .move (.tmp 15), guard := none, before := 1 }] false))))
def st55 (n : Int) (i : Nat) : St := { slots := (.int .u32 n :: .int .i64 8 :: .gone 0 :: .gone 0 :: .gone 0 :: .int .i64 8 :: .int .i64 i :: .gone 0 :: .gone 0 :: .gone 0 :: .gone 0 :: .gone 0 :: .gone 0 :: .gone 0 :: .gone 0 :: .gone 0 :: .gone 0 :: []), objs := [] }
def ex55 (n : Int) (i : Nat) : St := { slots := (.int .u32 n :: .int .i64 8 :: .gone 0 :: .gone 0 :: .gone 0 :: .int .i64 8 :: .int .i64 i :: .bool false :: .gone 0 :: .gone 0 :: .gone 0 :: .gone 0 :: .gone 0 :: .gone 0 :: .gone 0 :: .gone 0 :: .gone 0 :: []), objs := [] }
def x55 (n : Int) : Int := IntKind.u32.wrap (BitVec.ofInt 32 (n.fdiv (2 ^ 1)) ^^^ BitVec.ofInt 32 (IntKind.u32.wrap (BitVec.ofInt 32 2197175160 &&& BitVec.ofInt 32 (IntKind.u32.wrap (0 - IntKind.u32.wrap (BitVec.ofInt 32 n &&& BitVec.ofInt 32 1).toNat))).toNat)).toNat
theorem x55_eq (n : Nat) (h : n < 2 ^ 32) : x55 n = stepN n := by
  have e1 : (n : Int).fdiv (2 ^ 1) = ((n / 2 : Nat) : Int) := by rw [Int.fdiv_eq_ediv_of_nonneg _ (by decide)]; rfl
  have e2 : (BitVec.ofInt 32 (n : Int) &&& BitVec.ofInt 32 1).toNat = n % 2 := by
    rw [show (1 : Int) = ((1 : Nat) : Int) from rfl, andN n 1 h (by decide), Nat.and_one_is_mod]
  unfold x55 stepN
  rw [e1, e2]
  rcases Nat.mod_two_eq_zero_or_one n with h0 | h0
  · have e3 : (BitVec.ofInt 32 2197175160 &&& BitVec.ofInt 32 (IntKind.u32.wrap (0 - IntKind.u32.wrap ((0 : Nat) : Int)))).toNat = 0 := by decide
    rw [h0, e3, if_neg (by decide), wrap32 0 (by decide), xorN _ _ (by omega) (by decide), Nat.xor_zero, wrap32 _ (by omega)]
  · have e3 : (BitVec.ofInt 32 2197175160 &&& BitVec.ofInt 32 (IntKind.u32.wrap (0 - IntKind.u32.wrap ((1 : Nat) : Int)))).toNat = poly := by decide
    rw [h0, e3, if_pos rfl, wrap32 poly (by decide), xorN _ _ (by omega) (by decide), wrap32 _ (Nat.xor_lt_two_pow (by omega) (by decide))]
theorem round55 (n : Int) (i : Nat) (hi : i < 8) : ∃ s, step cal its again 0 body55 (st55 n i) = some (.normal, s) ∧ rebase? (some [0, 1, 5, 6]) 0 s = st55 (x55 n) (i + 1) := by
  have hlt : decide ((i : Int) < 8) = true := by simp; omega
  have hadd := inc_i64 i (by omega)
  unfold body55 st55
  apply vround
  · repeat' (((first
      | (with_reducible exact Vq.runOps_nil)
      | ((with_reducible apply Vq.runOps_cons); (first | exact rfl))
      | ((with_reducible first | apply Vq.vret | apply Vq.vskip | apply Vq.vexit | apply Vq.vab0 | apply Vq.vab1 | apply Vq.vabr); exact rfl)
      | ((with_reducible apply Vq.vregion); case hr => exact rfl)
      | (with_reducible first | apply Vq.vseq | apply Vq.vblock)
      | ((with_reducible apply Vq.vcond); exact rfl; dsimp only [Vq.pickC])
      | ((with_reducible apply Vq.vabx); (· decide); exact rfl) | dsimp only [Vq.afterSeq]); (try simp only [z1, z2, z3, z4, z5, z6, z7, z8, z9, z10, z11, z12, z13, z14, z15, z16, z17, z18, V.withLeaves, V.borrow, freeze1, borrows, borrow1, V.leaves, V.nextg, Nat.reduceAdd, Nat.reduceSub, layTup, obj1, splice, Bool.false_eq_true, if_true, if_false, Bool.not_true, Bool.not_false, hlt, hadd])))
  · exact rfl
theorem out55 (n : Int) : step cal its again 0 body55 (st55 n 8) = some (.exit 0, ex55 n 8) := by
  have hlt : decide (((8 : Nat) : Int) < 8) = false := by decide
  unfold body55 st55 ex55
  repeat' (((first
      | (with_reducible exact Vq.runOps_nil)
      | ((with_reducible apply Vq.runOps_cons); (first | exact rfl))
      | ((with_reducible first | apply Vq.vret | apply Vq.vskip | apply Vq.vexit | apply Vq.vab0 | apply Vq.vab1 | apply Vq.vabr); exact rfl)
      | ((with_reducible apply Vq.vregion); case hr => exact rfl)
      | (with_reducible first | apply Vq.vseq | apply Vq.vblock)
      | ((with_reducible apply Vq.vcond); exact rfl; dsimp only [Vq.pickC])
      | ((with_reducible apply Vq.vabx); (· decide); exact rfl) | dsimp only [Vq.afterSeq]); (try simp only [z1, z2, z3, z4, z5, z6, z7, z8, z9, z10, z11, z12, z13, z14, z15, z16, z17, z18, V.withLeaves, V.borrow, freeze1, borrows, borrow1, V.leaves, V.nextg, Nat.reduceAdd, Nat.reduceSub, layTup, obj1, splice, Bool.false_eq_true, if_true, if_false, Bool.not_true, Bool.not_false, hlt])))
theorem loop55 (G : VProg) : ∀ (j i m : Nat) (n : Nat) (σ : St), n < 2 ^ 32 → i + j = 8 → j ≤ m → rebase? (some [0, 1, 5, 6]) 0 σ = st55 n i →
    step (call G m) (itersOf G) (exec G m) 0 (.loop (some [0, 1, 5, 6]) body55) σ = some (.exit 0, ex55 (halN j n : Nat) 8)
  | 0, i, m, n, σ, hn, hi, hm, hr => by
    obtain rfl : i = 8 := by omega
    exact step_loop_out hr (out55 _ _ _ _) (by intro e; cases e)
  | j + 1, i, m, n, σ, hn, hi, hm, hr => by
    cases m with
    | zero => omega
    | succ m =>
    obtain ⟨r, h1, h2⟩ := round55 (call G (m + 1)) (itersOf G) (exec G (m + 1)) n i (by omega)
    rw [x55_eq n hn] at h2
    refine step_loop hr h1 ?_
    rw [exec_succ, loop55 G j (i + 1) m _ r (stepN_lt n hn) (by omega) (by omega) h2]
    rfl
theorem hal55 (G : VProg) (hG : G 55 = some (.code v55)) (n : Nat) (hn : n < 2 ^ 32) (m : Nat) (hm : 9 ≤ m) : call G m 55 [.int .u32 n, .int .i64 8] [] = some (.int .u32 (halN 8 n : Nat), []) := by
  obtain ⟨m, rfl⟩ : ∃ k, m = k + 1 := ⟨m - 1, by omega⟩
  apply call_code (o := .ret) hG ⟨rfl, by decide⟩
  · change step (call G m) (itersOf G) (exec G m) 0 b55 _ = _
    (try simp only [Vq.start, List.length_cons, List.length_nil, List.map_cons, List.map_nil, List.cons_append, List.nil_append, List.replicate_succ, List.replicate_zero, Nat.reduceAdd, Nat.reduceSub, v55])
    unfold b55
    (with_reducible apply Vq.vseq)
    · repeat' (((first
      | (with_reducible exact Vq.runOps_nil)
      | ((with_reducible apply Vq.runOps_cons); (first | exact rfl))
      | ((with_reducible first | apply Vq.vret | apply Vq.vskip | apply Vq.vexit | apply Vq.vab0 | apply Vq.vab1 | apply Vq.vabr); exact rfl)
      | ((with_reducible apply Vq.vregion); case hr => exact rfl)
      | (with_reducible first | apply Vq.vseq | apply Vq.vblock)
      | ((with_reducible apply Vq.vcond); exact rfl; dsimp only [Vq.pickC])
      | ((with_reducible apply Vq.vabx); (· decide); exact rfl) | dsimp only [Vq.afterSeq]); (try simp only [z1, z2, z3, z4, z5, z6, z7, z8, z9, z10, z11, z12, z13, z14, z15, z16, z17, z18, V.withLeaves, V.borrow, freeze1, borrows, borrow1, V.leaves, V.nextg, Nat.reduceAdd, Nat.reduceSub, layTup, obj1, splice, Bool.false_eq_true, if_true, if_false, Bool.not_true, Bool.not_false])))
    dsimp only [afterSeq]
    (with_reducible apply Vq.vseq)
    · (with_reducible apply Vq.vseq)
      · repeat' (((first
      | (with_reducible exact Vq.runOps_nil)
      | ((with_reducible apply Vq.runOps_cons); (first | exact rfl))
      | ((with_reducible first | apply Vq.vret | apply Vq.vskip | apply Vq.vexit | apply Vq.vab0 | apply Vq.vab1 | apply Vq.vabr); exact rfl)
      | ((with_reducible apply Vq.vregion); case hr => exact rfl)
      | (with_reducible first | apply Vq.vseq | apply Vq.vblock)
      | ((with_reducible apply Vq.vcond); exact rfl; dsimp only [Vq.pickC])
      | ((with_reducible apply Vq.vabx); (· decide); exact rfl) | dsimp only [Vq.afterSeq]); (try simp only [z1, z2, z3, z4, z5, z6, z7, z8, z9, z10, z11, z12, z13, z14, z15, z16, z17, z18, V.withLeaves, V.borrow, freeze1, borrows, borrow1, V.leaves, V.nextg, Nat.reduceAdd, Nat.reduceSub, layTup, obj1, splice, Bool.false_eq_true, if_true, if_false, Bool.not_true, Bool.not_false])))
      dsimp only [afterSeq]
      (with_reducible apply vblock)
      · exact loop55 G 8 0 m n _ hn (by omega) (by omega) rfl
      · apply vabkx (τ := { slots := (.int .u32 (halN 8 n : Nat) :: .gone 0 :: .gone 0 :: .gone 0 :: .gone 0 :: .gone 0 :: .gone 0 :: .gone 0 :: .gone 0 :: .gone 0 :: .gone 0 :: .gone 0 :: .gone 0 :: .gone 0 :: .gone 0 :: .gone 0 :: .gone 0 :: []), objs := [] }) rfl
        exact rfl
    dsimp only [afterSeq]
    repeat' (((first
      | (with_reducible exact Vq.runOps_nil)
      | ((with_reducible apply Vq.runOps_cons); (first | exact rfl))
      | ((with_reducible first | apply Vq.vret | apply Vq.vskip | apply Vq.vexit | apply Vq.vab0 | apply Vq.vab1 | apply Vq.vabr); exact rfl)
      | ((with_reducible apply Vq.vregion); case hr => exact rfl)
      | (with_reducible first | apply Vq.vseq | apply Vq.vblock)
      | ((with_reducible apply Vq.vcond); exact rfl; dsimp only [Vq.pickC])
      | ((with_reducible apply Vq.vabx); (· decide); exact rfl) | dsimp only [Vq.afterSeq]); (try simp only [z1, z2, z3, z4, z5, z6, z7, z8, z9, z10, z11, z12, z13, z14, z15, z16, z17, z18, V.withLeaves, V.borrow, freeze1, borrows, borrow1, V.leaves, V.nextg, Nat.reduceAdd, Nat.reduceSub, layTup, obj1, splice, Bool.false_eq_true, if_true, if_false, Bool.not_true, Bool.not_false])))
  · exact .inr rfl
  · first | exact rfl | (apply Vq.vfin; (· apply Vq.run_asks; (· simp); (try simp only [List.take_length, List.drop_zero]); (first | apply Vq.run_if trivial | apply Vq.run_if rfl); unfold Vq.sHome; simp only [Vq.Prog.run]; apply Vq.run_asks; (· exact Nat.zero_lt_one); exact rfl); (· exact rfl); (· exact rfl); (· decide); (· exact rfl); (· exact rfl))
/-! ### packhorseref05.step -/
theorem step56 (G : VProg) (hG : G 56 = some (.code v56)) (n : Nat) (hn : n < 2 ^ 32) (m : Nat) (hm : 1 ≤ m) : call G m 56 [.int .u64 n] [] = some (.int .u64 (stepN n : Nat), []) := by
  obtain ⟨m, rfl⟩ : ∃ k, m = k + 1 := ⟨m - 1, by omega⟩
  have e1 : IntKind.u64.wrap ((n : Int).tdiv 2) = ((n / 2 : Nat) : Int) := by
    rw [Int.tdiv_eq_ediv_of_nonneg (by omega)]
    exact wrap64 (n / 2) (by omega)
  have e4 : IntKind.u64.wrap (BitVec.ofInt 64 ((n / 2 : Nat) : Int) ^^^ BitVec.ofInt 64 2197175160).toNat = ((n / 2) ^^^ poly : Nat) := by
    rw [show (2197175160 : Int) = ((poly : Nat) : Int) from rfl, xorN _ _ (by omega) (by decide), wrap64 _ (by
      have := Nat.xor_lt_two_pow (n := 32) (show n / 2 < 2 ^ 32 by omega) (show poly < 2 ^ 32 by decide)
      omega)]
  have e5 : (n : Int).tmod 2 = ((n % 2 : Nat) : Int) := by rw [Int.tmod_eq_emod_of_nonneg (by omega)]; rfl
  cases h : ((n : Int).tmod 2 == 1) with
  | true =>
    have hs : stepN n = (n / 2) ^^^ poly := by
      unfold stepN
      rw [if_pos]
      rw [e5] at h
      have := beq_iff_eq.1 h
      omega
    rw [hs]
    apply call_code (o := .ret) hG ⟨rfl, by decide⟩
    · change step (call G m) (itersOf G) (exec G m) 0 b56 _ = _
      (try simp only [Vq.start, List.length_cons, List.length_nil, List.map_cons, List.map_nil, List.cons_append, List.nil_append, List.replicate_succ, List.replicate_zero, Nat.reduceAdd, Nat.reduceSub, v56])
      unfold b56
      repeat' (((first
      | (with_reducible exact Vq.runOps_nil)
      | ((with_reducible apply Vq.runOps_cons); (first | exact rfl))
      | ((with_reducible first | apply Vq.vret | apply Vq.vskip | apply Vq.vexit | apply Vq.vab0 | apply Vq.vab1 | apply Vq.vabr); exact rfl)
      | ((with_reducible apply Vq.vregion); case hr => exact rfl)
      | (with_reducible first | apply Vq.vseq | apply Vq.vblock)
      | ((with_reducible apply Vq.vcond); exact rfl; dsimp only [Vq.pickC])
      | ((with_reducible apply Vq.vabx); (· decide); exact rfl) | dsimp only [Vq.afterSeq]); (try simp only [z1, z2, z3, z4, z5, z6, z7, z8, z9, z10, z11, z12, z13, z14, z15, z16, z17, z18, V.withLeaves, V.borrow, freeze1, borrows, borrow1, V.leaves, V.nextg, Nat.reduceAdd, Nat.reduceSub, layTup, obj1, splice, Bool.false_eq_true, if_true, if_false, Bool.not_true, Bool.not_false, h])))
    · exact .inr rfl
    · rw [← e4, ← e1]
      first | exact rfl | (apply Vq.vfin; (· apply Vq.run_asks; (· simp); (try simp only [List.take_length, List.drop_zero]); (first | apply Vq.run_if trivial | apply Vq.run_if rfl); unfold Vq.sHome; simp only [Vq.Prog.run]; apply Vq.run_asks; (· exact Nat.zero_lt_one); exact rfl); (· exact rfl); (· exact rfl); (· decide); (· exact rfl); (· exact rfl))
  | false =>
    have hs : stepN n = n / 2 := by
      unfold stepN
      rw [if_neg]
      rw [e5] at h
      intro h0
      rw [h0] at h
      cases h
    rw [hs]
    apply call_code (o := .ret) hG ⟨rfl, by decide⟩
    · change step (call G m) (itersOf G) (exec G m) 0 b56 _ = _
      (try simp only [Vq.start, List.length_cons, List.length_nil, List.map_cons, List.map_nil, List.cons_append, List.nil_append, List.replicate_succ, List.replicate_zero, Nat.reduceAdd, Nat.reduceSub, v56])
      unfold b56
      repeat' (((first
      | (with_reducible exact Vq.runOps_nil)
      | ((with_reducible apply Vq.runOps_cons); (first | exact rfl))
      | ((with_reducible first | apply Vq.vret | apply Vq.vskip | apply Vq.vexit | apply Vq.vab0 | apply Vq.vab1 | apply Vq.vabr); exact rfl)
      | ((with_reducible apply Vq.vregion); case hr => exact rfl)
      | (with_reducible first | apply Vq.vseq | apply Vq.vblock)
      | ((with_reducible apply Vq.vcond); exact rfl; dsimp only [Vq.pickC])
      | ((with_reducible apply Vq.vabx); (· decide); exact rfl) | dsimp only [Vq.afterSeq]); (try simp only [z1, z2, z3, z4, z5, z6, z7, z8, z9, z10, z11, z12, z13, z14, z15, z16, z17, z18, V.withLeaves, V.borrow, freeze1, borrows, borrow1, V.leaves, V.nextg, Nat.reduceAdd, Nat.reduceSub, layTup, obj1, splice, Bool.false_eq_true, if_true, if_false, Bool.not_true, Bool.not_false, h])))
    · exact .inr rfl
    · rw [← e1]
      first | exact rfl | (apply Vq.vfin; (· apply Vq.run_asks; (· simp); (try simp only [List.take_length, List.drop_zero]); (first | apply Vq.run_if trivial | apply Vq.run_if rfl); unfold Vq.sHome; simp only [Vq.Prog.run]; apply Vq.run_asks; (· exact Nat.zero_lt_one); exact rfl); (· exact rfl); (· exact rfl); (· decide); (· exact rfl); (· exact rfl))
end S8
end Go.Vq

namespace Go.Vq
namespace S9
open Go S2 S3 S4 S5 S6 S7 S8
set_option maxRecDepth 1000000
variable (cal : Callee) (its : FuncId → Iter) (again : Nat → VCode → St → Option (Out × St))
theorem byN_len (l : List Nat) : (byN l).length = l.length := by simp [byN]
theorem byN_get (l : List Nat) (i : Nat) (h : i < l.length) : (byN l)[((i : Int)).toNat]? = some (.int .u8 (l[i] : Nat)) := by simp [byN, h]
theorem byN_noslice (l : List Nat) : ∀ x ∈ byN l, x.noslice = true := by
  intro x hx
  obtain ⟨n, _, rfl⟩ := List.mem_map.1 hx
  rfl
/-! ### check.Of, of one piece -/
def bodyi : VCode := (.seq (.region [{ dst := (some 17), op := .bin (.lss) (.tmp 16) (.tmp 15), guard := none, before := 0 }] false) (.seq (.cond (.tmp 17) (.skip) (.exit 2)) (.seq (.block 3 none (.seq (.region [{ dst := (some 18), op := .indexAddr none 1 (.tmp 14) (.tmp 16), guard := none, before := 0 }, { dst := (some 19), op := .load false 1 (.tmp 18), guard := none, before := 1 }, { dst := (some 7), op := .assign (.tmp 19), guard := none, before := 3 }] false) (.region [{ dst := (some 20), op := .move (.tmp 3), guard := none, before := 0 }, { dst := (some 21), op := .move (.tmp 7), guard := none, before := 0 }, { dst := (some 22), op := .conv (.int (.u32)) (.tmp 21), guard := none, before := 2 }, { dst := (some 23), op := .bin (.xor) (.tmp 20) (.tmp 22), guard := none, before := 7 }, { dst := (some 24), op := .call true 55 0 [(.tmp 23), (.val (.int .i64 8))], guard := none, before := 15 }, { dst := (some 3), op := .assign (.tmp 24), guard := none, before := 31 }] false))) (.region [{ dst := (some 25), op := .bin (.add) (.tmp 16) (.val (.int .i64 1)), guard := none, before := 0 }, { dst := (some 16), op := .move (.tmp 25), guard := none, before := 1 }] false))))
def sti (es : List V) (n : Int) (i : Nat) : St :=
  { slots := (.isl 0 1 [.isl 0 1 es] :: .gone 0 :: .gone 0 :: .int .u32 n :: .gone 0 :: .isl 0 1 es :: .gone 0 :: .gone 0 :: .isl 0 1 [.isl 0 1 es] :: .int .i64 1 :: .int .i64 0 :: .gone 0 :: .iptr [.isl 0 1 es] :: .isl 0 1 es :: .isl 0 1 es :: .int .i64 es.length :: .int .i64 i :: .gone 0 :: .gone 0 :: .gone 0 :: .gone 0 :: .gone 0 :: .gone 0 :: .gone 0 :: .gone 0 :: .gone 0 :: .gone 0 :: .gone 0 :: .gone 0 :: []), objs := [] }
def exi (es : List V) (n : Int) (i : Nat) : St :=
  { slots := (.isl 0 1 [.isl 0 1 es] :: .gone 0 :: .gone 0 :: .int .u32 n :: .gone 0 :: .isl 0 1 es :: .gone 0 :: .gone 0 :: .isl 0 1 [.isl 0 1 es] :: .int .i64 1 :: .int .i64 0 :: .gone 0 :: .iptr [.isl 0 1 es] :: .isl 0 1 es :: .isl 0 1 es :: .int .i64 es.length :: .int .i64 i :: .bool false :: .gone 0 :: .gone 0 :: .gone 0 :: .gone 0 :: .gone 0 :: .gone 0 :: .gone 0 :: .gone 0 :: .gone 0 :: .gone 0 :: .gone 0 :: []), objs := [] }
theorem wrap32x (n x : Nat) (hn : n < 2 ^ 32) (hx : x < 256) : IntKind.u32.wrap (BitVec.ofInt 32 (n : Int) ^^^ BitVec.ofInt 32 (IntKind.u32.wrap (x : Int))).toNat = ((n ^^^ x : Nat) : Int) := by
  rw [wrap32 x (by omega), xorN _ _ hn (by omega), wrap32 _ (Nat.xor_lt_two_pow hn (by omega))]
theorem roundi (l : List Nat) (n : Nat) (hn : n < 2 ^ 32) (hl : l.length < 2 ^ 40) (hx : ∀ x ∈ l, x < 256) (i : Nat) (hi : i < l.length)
    (h55 : ∀ n : Nat, n < 2 ^ 32 → cal 55 [.int .u32 n, .int .i64 8] [] = some (.int .u32 (halN 8 n : Nat), [])) :
    ∃ s, step cal its again 0 bodyi (sti (byN l) n i) = some (.normal, s) ∧ rebase? (some [0, 3, 5, 8, 9, 10, 12, 13, 14, 15, 16]) 0 s = sti (byN l) (onB n l[i] : Nat) (i + 1) := by
  have hg := byN_get l i hi
  have hlt : decide ((i : Int) < ((byN l).length : Int)) = true := by rw [byN_len]; simp; omega
  have hadd := inc_i64 i (by omega)
  have hxi := hx l[i] (List.getElem_mem hi)
  have hw : IntKind.u32.wrap (BitVec.ofInt IntKind.u32.bits (n : Int) ^^^ BitVec.ofInt IntKind.u32.bits (IntKind.u32.wrap ((l[i] : Nat) : Int))).toNat = ((n ^^^ l[i] : Nat) : Int) := wrap32x n l[i] hn hxi
  have hc := h55 (n ^^^ l[i]) (Nat.xor_lt_two_pow hn (by omega))
  unfold bodyi sti
  apply vround
  · (with_reducible apply Vq.vseq)
    · repeat' (((first
      | (with_reducible exact Vq.runOps_nil)
      | ((with_reducible apply Vq.runOps_cons); (first | exact rfl))
      | ((with_reducible first | apply Vq.vret | apply Vq.vskip | apply Vq.vexit | apply Vq.vab0 | apply Vq.vab1 | apply Vq.vabr); exact rfl)
      | ((with_reducible apply Vq.vregion); case hr => exact rfl)
      | (with_reducible first | apply Vq.vseq | apply Vq.vblock)
      | ((with_reducible apply Vq.vcond); exact rfl; dsimp only [Vq.pickC])
      | ((with_reducible apply Vq.vabx); (· decide); exact rfl) | dsimp only [Vq.afterSeq]); (try simp only [z1, z2, z3, z4, z5, z6, z7, z8, z9, z10, z11, z12, z13, z14, z15, z16, z17, z18, V.withLeaves, V.borrow, freeze1, borrows, borrow1, V.leaves, V.nextg, Nat.reduceAdd, Nat.reduceSub, layTup, obj1, splice, Bool.false_eq_true, if_true, if_false, Bool.not_true, Bool.not_false, hlt])))
    dsimp only [afterSeq]
    (with_reducible apply Vq.vseq)
    · repeat' (((first
      | (with_reducible exact Vq.runOps_nil)
      | ((with_reducible apply Vq.runOps_cons); (first | exact rfl))
      | ((with_reducible first | apply Vq.vret | apply Vq.vskip | apply Vq.vexit | apply Vq.vab0 | apply Vq.vab1 | apply Vq.vabr); exact rfl)
      | ((with_reducible apply Vq.vregion); case hr => exact rfl)
      | (with_reducible first | apply Vq.vseq | apply Vq.vblock)
      | ((with_reducible apply Vq.vcond); exact rfl; dsimp only [Vq.pickC])
      | ((with_reducible apply Vq.vabx); (· decide); exact rfl) | dsimp only [Vq.afterSeq]); (try simp only [z1, z2, z3, z4, z5, z6, z7, z8, z9, z10, z11, z12, z13, z14, z15, z16, z17, z18, V.withLeaves, V.borrow, freeze1, borrows, borrow1, V.leaves, V.nextg, Nat.reduceAdd, Nat.reduceSub, layTup, obj1, splice, Bool.false_eq_true, if_true, if_false, Bool.not_true, Bool.not_false, hlt])))
    dsimp only [afterSeq]
    (with_reducible apply Vq.vseq)
    · (with_reducible apply vblock)
      · (with_reducible apply Vq.vseq)
        · (with_reducible apply Vq.vregion); case hr => exact rfl
          (with_reducible apply Vq.runOps_cons)
          · apply vidx rfl rfl (.inl rfl) (by omega) hg
            exact rfl
          (try simp only [z1, z2, z3, z4, z5, z6, z7, z8, z9, z10, z11, z12, z13, z14, z15, z16, z17, z18, V.withLeaves, V.borrow, freeze1, borrows, borrow1, V.leaves, V.nextg, Nat.reduceAdd, Nat.reduceSub, layTup, obj1, splice, Bool.false_eq_true, if_true, if_false, Bool.not_true, Bool.not_false])
          repeat' (((first
      | (with_reducible exact Vq.runOps_nil)
      | ((with_reducible apply Vq.runOps_cons); (first | exact rfl))
      | ((with_reducible first | apply Vq.vret | apply Vq.vskip | apply Vq.vexit | apply Vq.vab0 | apply Vq.vab1 | apply Vq.vabr); exact rfl)
      | ((with_reducible apply Vq.vregion); case hr => exact rfl)
      | (with_reducible first | apply Vq.vseq | apply Vq.vblock)
      | ((with_reducible apply Vq.vcond); exact rfl; dsimp only [Vq.pickC])
      | ((with_reducible apply Vq.vabx); (· decide); exact rfl) | dsimp only [Vq.afterSeq]); (try simp only [z1, z2, z3, z4, z5, z6, z7, z8, z9, z10, z11, z12, z13, z14, z15, z16, z17, z18, V.withLeaves, V.borrow, freeze1, borrows, borrow1, V.leaves, V.nextg, Nat.reduceAdd, Nat.reduceSub, layTup, obj1, splice, Bool.false_eq_true, if_true, if_false, Bool.not_true, Bool.not_false])))
        dsimp only [afterSeq]
        repeat' (((first
      | (with_reducible exact Vq.runOps_nil)
      | ((with_reducible apply Vq.runOps_cons); (first | exact rfl | (apply Vq.vcallA; exact rfl; exact fun _ => rfl; exact rfl; (first | exact hc); (first | exact rfl | (simp [Vq.V.apart, Vq.V.leaves, Vq.V.noslice]; done) | (simp [Vq.V.apart, Vq.V.leaves, Vq.V.noslice]; assumption)); exact rfl)))
      | ((with_reducible first | apply Vq.vret | apply Vq.vskip | apply Vq.vexit | apply Vq.vab0 | apply Vq.vab1 | apply Vq.vabr); exact rfl)
      | ((with_reducible apply Vq.vregion); case hr => exact rfl)
      | (with_reducible first | apply Vq.vseq | apply Vq.vblock)
      | ((with_reducible apply Vq.vcond); exact rfl; dsimp only [Vq.pickC])
      | ((with_reducible apply Vq.vabx); (· decide); exact rfl) | dsimp only [Vq.afterSeq]); (try simp only [z1, z2, z3, z4, z5, z6, z7, z8, z9, z10, z11, z12, z13, z14, z15, z16, z17, z18, V.withLeaves, V.borrow, freeze1, borrows, borrow1, V.leaves, V.nextg, Nat.reduceAdd, Nat.reduceSub, layTup, obj1, splice, Bool.false_eq_true, if_true, if_false, Bool.not_true, Bool.not_false, hw])))
      repeat' (((first
      | (with_reducible exact Vq.runOps_nil)
      | ((with_reducible apply Vq.runOps_cons); (first | exact rfl))
      | ((with_reducible first | apply Vq.vret | apply Vq.vskip | apply Vq.vexit | apply Vq.vab0 | apply Vq.vab1 | apply Vq.vabr); exact rfl)
      | ((with_reducible apply Vq.vregion); case hr => exact rfl)
      | (with_reducible first | apply Vq.vseq | apply Vq.vblock)
      | ((with_reducible apply Vq.vcond); exact rfl; dsimp only [Vq.pickC])
      | ((with_reducible apply Vq.vabx); (· decide); exact rfl) | dsimp only [Vq.afterSeq]); (try simp only [z1, z2, z3, z4, z5, z6, z7, z8, z9, z10, z11, z12, z13, z14, z15, z16, z17, z18, V.withLeaves, V.borrow, freeze1, borrows, borrow1, V.leaves, V.nextg, Nat.reduceAdd, Nat.reduceSub, layTup, obj1, splice, Bool.false_eq_true, if_true, if_false, Bool.not_true, Bool.not_false])))
    dsimp only [afterSeq]
    repeat' (((first
      | (with_reducible exact Vq.runOps_nil)
      | ((with_reducible apply Vq.runOps_cons); (first | exact rfl))
      | ((with_reducible first | apply Vq.vret | apply Vq.vskip | apply Vq.vexit | apply Vq.vab0 | apply Vq.vab1 | apply Vq.vabr); exact rfl)
      | ((with_reducible apply Vq.vregion); case hr => exact rfl)
      | (with_reducible first | apply Vq.vseq | apply Vq.vblock)
      | ((with_reducible apply Vq.vcond); exact rfl; dsimp only [Vq.pickC])
      | ((with_reducible apply Vq.vabx); (· decide); exact rfl) | dsimp only [Vq.afterSeq]); (try simp only [z1, z2, z3, z4, z5, z6, z7, z8, z9, z10, z11, z12, z13, z14, z15, z16, z17, z18, V.withLeaves, V.borrow, freeze1, borrows, borrow1, V.leaves, V.nextg, Nat.reduceAdd, Nat.reduceSub, layTup, obj1, splice, Bool.false_eq_true, if_true, if_false, Bool.not_true, Bool.not_false, hadd])))
  · exact rfl
theorem outi (l : List Nat) (n : Int) (i : Nat) (hi : l.length ≤ i) : step cal its again 0 bodyi (sti (byN l) n i) = some (.exit 2, exi (byN l) n i) := by
  have hlt : decide ((i : Int) < ((byN l).length : Int)) = false := by rw [byN_len]; simp; omega
  unfold bodyi sti exi
  repeat' (((first
      | (with_reducible exact Vq.runOps_nil)
      | ((with_reducible apply Vq.runOps_cons); (first | exact rfl))
      | ((with_reducible first | apply Vq.vret | apply Vq.vskip | apply Vq.vexit | apply Vq.vab0 | apply Vq.vab1 | apply Vq.vabr); exact rfl)
      | ((with_reducible apply Vq.vregion); case hr => exact rfl)
      | (with_reducible first | apply Vq.vseq | apply Vq.vblock)
      | ((with_reducible apply Vq.vcond); exact rfl; dsimp only [Vq.pickC])
      | ((with_reducible apply Vq.vabx); (· decide); exact rfl) | dsimp only [Vq.afterSeq]); (try simp only [z1, z2, z3, z4, z5, z6, z7, z8, z9, z10, z11, z12, z13, z14, z15, z16, z17, z18, V.withLeaves, V.borrow, freeze1, borrows, borrow1, V.leaves, V.nextg, Nat.reduceAdd, Nat.reduceSub, layTup, obj1, splice, Bool.false_eq_true, if_true, if_false, Bool.not_true, Bool.not_false, hlt])))
theorem loopi (G : VProg) (l : List Nat) (hl : l.length < 2 ^ 40) (hx : ∀ x ∈ l, x < 256)
    (h55 : ∀ (n m : Nat), n < 2 ^ 32 → 9 ≤ m → call G m 55 [.int .u32 n, .int .i64 8] [] = some (.int .u32 (halN 8 n : Nat), [])) : ∀ (j i m : Nat) (n : Nat) (σ : St), n < 2 ^ 32 → i + j = l.length → j + 9 ≤ m → rebase? (some [0, 3, 5, 8, 9, 10, 12, 13, 14, 15, 16]) 0 σ = sti (byN l) n i →
    step (call G m) (itersOf G) (exec G m) 0 (.loop (some [0, 3, 5, 8, 9, 10, 12, 13, 14, 15, 16]) bodyi) σ = some (.exit 2, exi (byN l) (crcN n (l.drop i) : Nat) l.length)
  | 0, i, m, n, σ, hn, hi, hm, hr => by
    obtain rfl : i = l.length := by omega
    refine step_loop_out hr ?_ (by intro e; cases e)
    rw [List.drop_length]
    exact outi _ _ _ l n _ (Nat.le_refl _)
  | j + 1, i, m, n, σ, hn, hi, hm, hr => by
    cases m with
    | zero => omega
    | succ m =>
    obtain ⟨r, h1, h2⟩ := roundi (call G (m + 1)) (itersOf G) (exec G (m + 1)) l n hn hl hx i (by omega) (fun n hn => h55 n _ hn (by omega))
    refine step_loop hr h1 ?_
    rw [exec_succ, loopi G l hl hx h55 j (i + 1) m _ r (onB_lt _ _ hn (hx _ (List.getElem_mem (by omega)))) (by omega) (by omega) h2]
    rw [List.drop_eq_getElem_cons (show i < l.length by omega)]
    rfl
theorem not32 (n : Nat) (hn : n < 2 ^ 32) : IntKind.u32.wrap (BitVec.ofInt 32 IntKind.u32.max ^^^ BitVec.ofInt 32 (n : Int)).toNat = ((4294967295 - n : Nat) : Int) := by
  rw [show (IntKind.u32.max : Int) = ((4294967295 : Nat) : Int) from rfl]
  have e : (BitVec.ofInt 32 ((4294967295 : Nat) : Int) ^^^ BitVec.ofInt 32 (n : Int)).toNat = 4294967295 - n := by
    simp only [BitVec.ofInt_natCast]
    have h1 : BitVec.ofNat 32 4294967295 = BitVec.allOnes 32 := by decide
    rw [h1, BitVec.allOnes_xor, BitVec.toNat_not, BitVec.toNat_ofNat, Nat.mod_eq_of_lt hn]
  rw [e, wrap32 _ (by omega)]
def bodyo : VCode := (.seq (.region [{ dst := (some 11), op := .bin (.lss) (.tmp 10) (.tmp 9), guard := none, before := 0 }] false) (.seq (.cond (.tmp 11) (.skip) (.exit 0)) (.seq (.block 1 (some [0, 3, 8, 9, 10]) (.seq (.region [{ dst := (some 12), op := .indexAddr none 1 (.tmp 8) (.tmp 10), guard := none, before := 0 }, { dst := (some 13), op := .load false 1 (.tmp 12), guard := none, before := 1 }, { dst := (some 5), op := .assign (.tmp 13), guard := none, before := 3 }] false) (.seq (.region [{ dst := (some 14), op := .move (.tmp 5), guard := none, before := 0 }, { dst := (some 15), op := .len (.slc 1) (.tmp 14), guard := none, before := 1 }, { dst := (some 16), op := .move (.val (.int .i64 0)), guard := none, before := 0 }] false) (.block 2 (some [0, 3, 8, 9, 10]) (.loop (some [0, 3, 5, 8, 9, 10, 12, 13, 14, 15, 16]) (.seq (.region [{ dst := (some 17), op := .bin (.lss) (.tmp 16) (.tmp 15), guard := none, before := 0 }] false) (.seq (.cond (.tmp 17) (.skip) (.exit 2)) (.seq (.block 3 none (.seq (.region [{ dst := (some 18), op := .indexAddr none 1 (.tmp 14) (.tmp 16), guard := none, before := 0 }, { dst := (some 19), op := .load false 1 (.tmp 18), guard := none, before := 1 }, { dst := (some 7), op := .assign (.tmp 19), guard := none, before := 3 }] false) (.region [{ dst := (some 20), op := .move (.tmp 3), guard := none, before := 0 }, { dst := (some 21), op := .move (.tmp 7), guard := none, before := 0 }, { dst := (some 22), op := .conv (.int (.u32)) (.tmp 21), guard := none, before := 2 }, { dst := (some 23), op := .bin (.xor) (.tmp 20) (.tmp 22), guard := none, before := 7 }, { dst := (some 24), op := .call true 55 0 [(.tmp 23), (.val (.int .i64 8))], guard := none, before := 15 }, { dst := (some 3), op := .assign (.tmp 24), guard := none, before := 31 }] false))) (.region [{ dst := (some 25), op := .bin (.add) (.tmp 16) (.val (.int .i64 1)), guard := none, before := 0 }, { dst := (some 16), op := .move (.tmp 25), guard := none, before := 1 }] false))))))))) (.region [{ dst := (some 26), op := .bin (.add) (.tmp 10) (.val (.int .i64 1)), guard := none, before := 0 }, { dst := (some 10), op := .move (.tmp 26), guard := none, before := 1 }] false))))
def sto (es : List V) (n : Int) (i : Nat) : St :=
  { slots := (.isl 0 1 [.isl 0 1 es] :: .gone 0 :: .gone 0 :: .int .u32 n :: .gone 0 :: .gone 0 :: .gone 0 :: .gone 0 :: .isl 0 1 [.isl 0 1 es] :: .int .i64 1 :: .int .i64 i :: .gone 0 :: .gone 0 :: .gone 0 :: .gone 0 :: .gone 0 :: .gone 0 :: .gone 0 :: .gone 0 :: .gone 0 :: .gone 0 :: .gone 0 :: .gone 0 :: .gone 0 :: .gone 0 :: .gone 0 :: .gone 0 :: .gone 0 :: .gone 0 :: []), objs := [] }
def exo (es : List V) (n : Int) : St :=
  { slots := (.isl 0 1 [.isl 0 1 es] :: .gone 0 :: .gone 0 :: .int .u32 n :: .gone 0 :: .gone 0 :: .gone 0 :: .gone 0 :: .isl 0 1 [.isl 0 1 es] :: .int .i64 1 :: .int .i64 (1 : Nat) :: .bool false :: .gone 0 :: .gone 0 :: .gone 0 :: .gone 0 :: .gone 0 :: .gone 0 :: .gone 0 :: .gone 0 :: .gone 0 :: .gone 0 :: .gone 0 :: .gone 0 :: .gone 0 :: .gone 0 :: .gone 0 :: .gone 0 :: .gone 0 :: []), objs := [] }
theorem roundo (G : VProg) (l : List Nat) (hl : l.length < 2 ^ 40) (hx : ∀ x ∈ l, x < 256)
    (h55 : ∀ (n m : Nat), n < 2 ^ 32 → 9 ≤ m → call G m 55 [.int .u32 n, .int .i64 8] [] = some (.int .u32 (halN 8 n : Nat), [])) (m : Nat) (hm : l.length + 9 ≤ m) :
    ∃ s, step (call G m) (itersOf G) (exec G m) 0 bodyo (sto (byN l) 4294967295 0) = some (.normal, s) ∧ rebase? (some [0, 3, 8, 9, 10]) 0 s = sto (byN l) (crcN 4294967295 l : Nat) 1 := by
  have hg : [V.isl 0 1 (byN l)][((0 : Nat) : Int).toNat]? = some (.isl 0 1 (byN l)) := rfl
  have hlt : decide (((0 : Nat) : Int) < 1) = true := by decide
  have hadd : IntKind.i64.wrap (((0 : Nat) : Int) + 1) = ((1 : Nat) : Int) := by decide
  unfold bodyo sto
  apply vround
  · (with_reducible apply Vq.vseq)
    · repeat' (((first
      | (with_reducible exact Vq.runOps_nil)
      | ((with_reducible apply Vq.runOps_cons); (first | exact rfl))
      | ((with_reducible first | apply Vq.vret | apply Vq.vskip | apply Vq.vexit | apply Vq.vab0 | apply Vq.vab1 | apply Vq.vabr); exact rfl)
      | ((with_reducible apply Vq.vregion); case hr => exact rfl)
      | (with_reducible first | apply Vq.vseq | apply Vq.vblock)
      | ((with_reducible apply Vq.vcond); exact rfl; dsimp only [Vq.pickC])
      | ((with_reducible apply Vq.vabx); (· decide); exact rfl) | dsimp only [Vq.afterSeq]); (try simp only [z1, z2, z3, z4, z5, z6, z7, z8, z9, z10, z11, z12, z13, z14, z15, z16, z17, z18, V.withLeaves, V.borrow, freeze1, borrows, borrow1, V.leaves, V.nextg, Nat.reduceAdd, Nat.reduceSub, layTup, obj1, splice, Bool.false_eq_true, if_true, if_false, Bool.not_true, Bool.not_false, hlt])))
    dsimp only [afterSeq]
    (with_reducible apply Vq.vseq)
    · repeat' (((first
      | (with_reducible exact Vq.runOps_nil)
      | ((with_reducible apply Vq.runOps_cons); (first | exact rfl))
      | ((with_reducible first | apply Vq.vret | apply Vq.vskip | apply Vq.vexit | apply Vq.vab0 | apply Vq.vab1 | apply Vq.vabr); exact rfl)
      | ((with_reducible apply Vq.vregion); case hr => exact rfl)
      | (with_reducible first | apply Vq.vseq | apply Vq.vblock)
      | ((with_reducible apply Vq.vcond); exact rfl; dsimp only [Vq.pickC])
      | ((with_reducible apply Vq.vabx); (· decide); exact rfl) | dsimp only [Vq.afterSeq]); (try simp only [z1, z2, z3, z4, z5, z6, z7, z8, z9, z10, z11, z12, z13, z14, z15, z16, z17, z18, V.withLeaves, V.borrow, freeze1, borrows, borrow1, V.leaves, V.nextg, Nat.reduceAdd, Nat.reduceSub, layTup, obj1, splice, Bool.false_eq_true, if_true, if_false, Bool.not_true, Bool.not_false, hlt])))
    dsimp only [afterSeq]
    (with_reducible apply Vq.vseq)
    · (with_reducible apply vblock)
      · (with_reducible apply Vq.vseq)
        · (with_reducible apply Vq.vregion); case hr => exact rfl
          (with_reducible apply Vq.runOps_cons)
          · apply vidx rfl rfl (.inl rfl) (by decide) hg
            exact rfl
          (try simp only [z1, z2, z3, z4, z5, z6, z7, z8, z9, z10, z11, z12, z13, z14, z15, z16, z17, z18, V.withLeaves, V.borrow, freeze1, borrows, borrow1, V.leaves, V.nextg, Nat.reduceAdd, Nat.reduceSub, layTup, obj1, splice, Bool.false_eq_true, if_true, if_false, Bool.not_true, Bool.not_false])
          repeat' (((first
      | (with_reducible exact Vq.runOps_nil)
      | ((with_reducible apply Vq.runOps_cons); (first | exact rfl))
      | ((with_reducible first | apply Vq.vret | apply Vq.vskip | apply Vq.vexit | apply Vq.vab0 | apply Vq.vab1 | apply Vq.vabr); exact rfl)
      | ((with_reducible apply Vq.vregion); case hr => exact rfl)
      | (with_reducible first | apply Vq.vseq | apply Vq.vblock)
      | ((with_reducible apply Vq.vcond); exact rfl; dsimp only [Vq.pickC])
      | ((with_reducible apply Vq.vabx); (· decide); exact rfl) | dsimp only [Vq.afterSeq]); (try simp only [z1, z2, z3, z4, z5, z6, z7, z8, z9, z10, z11, z12, z13, z14, z15, z16, z17, z18, V.withLeaves, V.borrow, freeze1, borrows, borrow1, V.leaves, V.nextg, Nat.reduceAdd, Nat.reduceSub, layTup, obj1, splice, Bool.false_eq_true, if_true, if_false, Bool.not_true, Bool.not_false])))
        dsimp only [afterSeq]
        (with_reducible apply Vq.vseq)
        · repeat' (((first
      | (with_reducible exact Vq.runOps_nil)
      | ((with_reducible apply Vq.runOps_cons); (first | exact rfl))
      | ((with_reducible first | apply Vq.vret | apply Vq.vskip | apply Vq.vexit | apply Vq.vab0 | apply Vq.vab1 | apply Vq.vabr); exact rfl)
      | ((with_reducible apply Vq.vregion); case hr => exact rfl)
      | (with_reducible first | apply Vq.vseq | apply Vq.vblock)
      | ((with_reducible apply Vq.vcond); exact rfl; dsimp only [Vq.pickC])
      | ((with_reducible apply Vq.vabx); (· decide); exact rfl) | dsimp only [Vq.afterSeq]); (try simp only [z1, z2, z3, z4, z5, z6, z7, z8, z9, z10, z11, z12, z13, z14, z15, z16, z17, z18, V.withLeaves, V.borrow, freeze1, borrows, borrow1, V.leaves, V.nextg, Nat.reduceAdd, Nat.reduceSub, layTup, obj1, splice, Bool.false_eq_true, if_true, if_false, Bool.not_true, Bool.not_false])))
        dsimp only [afterSeq]
        (with_reducible apply vblock)
        · exact loopi G l hl hx h55 l.length 0 m 4294967295 _ (by decide) (by omega) (by omega) rfl
        · apply vabkx (τ := sto (byN l) (crcN 4294967295 l : Nat) 0) rfl
          exact rfl
      · apply vabk (τ := sto (byN l) (crcN 4294967295 l : Nat) 0)
        · exact rfl
        · exact rfl
    dsimp only [afterSeq]
    unfold sto
    repeat' (((first
      | (with_reducible exact Vq.runOps_nil)
      | ((with_reducible apply Vq.runOps_cons); (first | exact rfl))
      | ((with_reducible first | apply Vq.vret | apply Vq.vskip | apply Vq.vexit | apply Vq.vab0 | apply Vq.vab1 | apply Vq.vabr); exact rfl)
      | ((with_reducible apply Vq.vregion); case hr => exact rfl)
      | (with_reducible first | apply Vq.vseq | apply Vq.vblock)
      | ((with_reducible apply Vq.vcond); exact rfl; dsimp only [Vq.pickC])
      | ((with_reducible apply Vq.vabx); (· decide); exact rfl) | dsimp only [Vq.afterSeq]); (try simp only [z1, z2, z3, z4, z5, z6, z7, z8, z9, z10, z11, z12, z13, z14, z15, z16, z17, z18, V.withLeaves, V.borrow, freeze1, borrows, borrow1, V.leaves, V.nextg, Nat.reduceAdd, Nat.reduceSub, layTup, obj1, splice, Bool.false_eq_true, if_true, if_false, Bool.not_true, Bool.not_false, hadd])))
  · exact rfl
theorem outo (es : List V) (n : Int) : step cal its again 0 bodyo (sto es n 1) = some (.exit 0, exo es n) := by
  have hlt : decide (((1 : Nat) : Int) < 1) = false := by decide
  unfold bodyo sto exo
  repeat' (((first
      | (with_reducible exact Vq.runOps_nil)
      | ((with_reducible apply Vq.runOps_cons); (first | exact rfl))
      | ((with_reducible first | apply Vq.vret | apply Vq.vskip | apply Vq.vexit | apply Vq.vab0 | apply Vq.vab1 | apply Vq.vabr); exact rfl)
      | ((with_reducible apply Vq.vregion); case hr => exact rfl)
      | (with_reducible first | apply Vq.vseq | apply Vq.vblock)
      | ((with_reducible apply Vq.vcond); exact rfl; dsimp only [Vq.pickC])
      | ((with_reducible apply Vq.vabx); (· decide); exact rfl) | dsimp only [Vq.afterSeq]); (try simp only [z1, z2, z3, z4, z5, z6, z7, z8, z9, z10, z11, z12, z13, z14, z15, z16, z17, z18, V.withLeaves, V.borrow, freeze1, borrows, borrow1, V.leaves, V.nextg, Nat.reduceAdd, Nat.reduceSub, layTup, obj1, splice, Bool.false_eq_true, if_true, if_false, Bool.not_true, Bool.not_false, hlt])))
theorem loopo (G : VProg) (l : List Nat) (hl : l.length < 2 ^ 40) (hx : ∀ x ∈ l, x < 256)
    (h55 : ∀ (n m : Nat), n < 2 ^ 32 → 9 ≤ m → call G m 55 [.int .u32 n, .int .i64 8] [] = some (.int .u32 (halN 8 n : Nat), [])) (m : Nat) (hm : l.length + 9 ≤ m) (σ : St) (hr : rebase? (some [0, 3, 8, 9, 10]) 0 σ = sto (byN l) 4294967295 0) :
    step (call G (m + 1)) (itersOf G) (exec G (m + 1)) 0 (.loop (some [0, 3, 8, 9, 10]) bodyo) σ = some (.exit 0, exo (byN l) (crcN 4294967295 l : Nat)) := by
  obtain ⟨r, h1, h2⟩ := roundo G l hl hx h55 (m + 1) (by omega)
  refine step_loop hr h1 ?_
  rw [exec_succ]
  exact step_loop_out h2 (outo _ _ _ _ _) (by intro e; cases e)
theorem of49 (G : VProg) (hG : G 49 = some (.code v49)) (l : List Nat) (hl : l.length < 2 ^ 40) (hx : ∀ x ∈ l, x < 256)
    (h55 : ∀ (n m : Nat), n < 2 ^ 32 → 9 ≤ m → call G m 55 [.int .u32 n, .int .i64 8] [] = some (.int .u32 (halN 8 n : Nat), [])) (m : Nat) (hm : l.length + 12 ≤ m) :
    call G m 49 [.isl 0 1 [.isl 0 1 (byN l)]] [] = some (.int .u32 (crc l : Nat), []) := by
  obtain ⟨m, rfl⟩ : ∃ k, m = k + 2 := ⟨m - 2, by omega⟩
  have hb := crcN_lt l 4294967295 (by decide) hx
  have hw : IntKind.u32.wrap (BitVec.ofInt IntKind.u32.bits (if IntKind.u32.signed = true then -1 else IntKind.u32.max) ^^^ BitVec.ofInt IntKind.u32.bits ((crcN 4294967295 l : Nat) : Int)).toNat = ((crc l : Nat) : Int) := not32 _ hb
  apply call_code (o := .ret) hG ⟨rfl, by decide⟩
  · change step (call G (m + 1)) (itersOf G) (exec G (m + 1)) 0 b49 _ = _
    (try simp only [Vq.start, List.length_cons, List.length_nil, List.map_cons, List.map_nil, List.cons_append, List.nil_append, List.replicate_succ, List.replicate_zero, Nat.reduceAdd, Nat.reduceSub, v49])
    unfold b49
    (with_reducible apply Vq.vseq)
    · repeat' (((first
      | (with_reducible exact Vq.runOps_nil)
      | ((with_reducible apply Vq.runOps_cons); (first | exact rfl))
      | ((with_reducible first | apply Vq.vret | apply Vq.vskip | apply Vq.vexit | apply Vq.vab0 | apply Vq.vab1 | apply Vq.vabr); exact rfl)
      | ((with_reducible apply Vq.vregion); case hr => exact rfl)
      | (with_reducible first | apply Vq.vseq | apply Vq.vblock)
      | ((with_reducible apply Vq.vcond); exact rfl; dsimp only [Vq.pickC])
      | ((with_reducible apply Vq.vabx); (· decide); exact rfl) | dsimp only [Vq.afterSeq]); (try simp only [z1, z2, z3, z4, z5, z6, z7, z8, z9, z10, z11, z12, z13, z14, z15, z16, z17, z18, V.withLeaves, V.borrow, freeze1, borrows, borrow1, V.leaves, V.nextg, Nat.reduceAdd, Nat.reduceSub, layTup, obj1, splice, Bool.false_eq_true, if_true, if_false, Bool.not_true, Bool.not_false])))
    dsimp only [afterSeq]
    (with_reducible apply Vq.vseq)
    · repeat' (((first
      | (with_reducible exact Vq.runOps_nil)
      | ((with_reducible apply Vq.runOps_cons); (first | exact rfl))
      | ((with_reducible first | apply Vq.vret | apply Vq.vskip | apply Vq.vexit | apply Vq.vab0 | apply Vq.vab1 | apply Vq.vabr); exact rfl)
      | ((with_reducible apply Vq.vregion); case hr => exact rfl)
      | (with_reducible first | apply Vq.vseq | apply Vq.vblock)
      | ((with_reducible apply Vq.vcond); exact rfl; dsimp only [Vq.pickC])
      | ((with_reducible apply Vq.vabx); (· decide); exact rfl) | dsimp only [Vq.afterSeq]); (try simp only [z1, z2, z3, z4, z5, z6, z7, z8, z9, z10, z11, z12, z13, z14, z15, z16, z17, z18, V.withLeaves, V.borrow, freeze1, borrows, borrow1, V.leaves, V.nextg, Nat.reduceAdd, Nat.reduceSub, layTup, obj1, splice, Bool.false_eq_true, if_true, if_false, Bool.not_true, Bool.not_false])))
    dsimp only [afterSeq]
    (with_reducible apply Vq.vseq)
    · (with_reducible apply Vq.vseq)
      · repeat' (((first
      | (with_reducible exact Vq.runOps_nil)
      | ((with_reducible apply Vq.runOps_cons); (first | exact rfl))
      | ((with_reducible first | apply Vq.vret | apply Vq.vskip | apply Vq.vexit | apply Vq.vab0 | apply Vq.vab1 | apply Vq.vabr); exact rfl)
      | ((with_reducible apply Vq.vregion); case hr => exact rfl)
      | (with_reducible first | apply Vq.vseq | apply Vq.vblock)
      | ((with_reducible apply Vq.vcond); exact rfl; dsimp only [Vq.pickC])
      | ((with_reducible apply Vq.vabx); (· decide); exact rfl) | dsimp only [Vq.afterSeq]); (try simp only [z1, z2, z3, z4, z5, z6, z7, z8, z9, z10, z11, z12, z13, z14, z15, z16, z17, z18, V.withLeaves, V.borrow, freeze1, borrows, borrow1, V.leaves, V.nextg, Nat.reduceAdd, Nat.reduceSub, layTup, obj1, splice, Bool.false_eq_true, if_true, if_false, Bool.not_true, Bool.not_false])))
      dsimp only [afterSeq]
      (with_reducible apply vblock)
      · exact loopo G l hl hx h55 m (by omega) _ rfl
      · apply vabkx (τ := { slots := (.gone 0 :: .gone 0 :: .gone 0 :: .int .u32 (crcN 4294967295 l : Nat) :: .gone 0 :: .gone 0 :: .gone 0 :: .gone 0 :: .gone 0 :: .gone 0 :: .gone 0 :: .gone 0 :: .gone 0 :: .gone 0 :: .gone 0 :: .gone 0 :: .gone 0 :: .gone 0 :: .gone 0 :: .gone 0 :: .gone 0 :: .gone 0 :: .gone 0 :: .gone 0 :: .gone 0 :: .gone 0 :: .gone 0 :: .gone 0 :: .gone 0 :: []), objs := [] }) rfl
        exact rfl
    dsimp only [afterSeq]
    repeat' (((first
      | (with_reducible exact Vq.runOps_nil)
      | ((with_reducible apply Vq.runOps_cons); (first | exact rfl))
      | ((with_reducible first | apply Vq.vret | apply Vq.vskip | apply Vq.vexit | apply Vq.vab0 | apply Vq.vab1 | apply Vq.vabr); exact rfl)
      | ((with_reducible apply Vq.vregion); case hr => exact rfl)
      | (with_reducible first | apply Vq.vseq | apply Vq.vblock)
      | ((with_reducible apply Vq.vcond); exact rfl; dsimp only [Vq.pickC])
      | ((with_reducible apply Vq.vabx); (· decide); exact rfl) | dsimp only [Vq.afterSeq]); (try simp only [z1, z2, z3, z4, z5, z6, z7, z8, z9, z10, z11, z12, z13, z14, z15, z16, z17, z18, V.withLeaves, V.borrow, freeze1, borrows, borrow1, V.leaves, V.nextg, Nat.reduceAdd, Nat.reduceSub, layTup, obj1, splice, Bool.false_eq_true, if_true, if_false, Bool.not_true, Bool.not_false, hw])))
  · exact .inr rfl
  · first | exact rfl | (apply Vq.vfin; (· apply Vq.run_asks; (· simp); (try simp only [List.take_length, List.drop_zero]); (first | apply Vq.run_if trivial | apply Vq.run_if rfl); unfold Vq.sHome; simp only [Vq.Prog.run]; apply Vq.run_asks; (· exact Nat.zero_lt_one); exact rfl); (· exact rfl); (· exact rfl); (· decide); (· exact rfl); (· exact rfl))
/-! ### packhorseref05.Of -/
def bodys : VCode := (.seq (.seq (.region [{ dst := (some 17), op := .move (.tmp 6), guard := none, before := 0 }, { dst := (some 18), op := .bin (.lss) (.tmp 17) (.val (.int .i64 8)), guard := none, before := 1 }] false) (.cond (.tmp 18) (.skip) (.exit 2))) (.seq (.block 3 none (.region [{ dst := (some 21), op := .move (.tmp 3), guard := none, before := 0 }, { dst := (some 22), op := .call true 56 0 [(.tmp 21)], guard := none, before := 1 }, { dst := (some 3), op := .assign (.tmp 22), guard := none, before := 3 }] false)) (.region [{ dst := (some 19), op := .move (.tmp 6), guard := none, before := 0 }, { dst := (some 20), op := .bin (.add) (.tmp 19) (.val (.int .i64 1)), guard := none, before := 1 }, { dst := (some 6), op := .assign (.tmp 20), guard := none, before := 3 }] false)))
def sts (es : List V) (n : Int) (i : Nat) (k : Nat) : St :=
  { slots := (.isl 0 1 es :: .gone 0 :: .gone 0 :: .int .u64 n :: .gone 0 :: .gone 0 :: .int .i64 k :: .isl 0 1 es :: .int .i64 es.length :: .int .i64 i :: .gone 0 :: .gone 0 :: .gone 0 :: .gone 0 :: .gone 0 :: .gone 0 :: .gone 0 :: .gone 0 :: .gone 0 :: .gone 0 :: .gone 0 :: .gone 0 :: .gone 0 :: .gone 0 :: .gone 0 :: .gone 0 :: .gone 0 :: []), objs := [] }
def exs (es : List V) (n : Int) (i : Nat) : St :=
  { slots := (.isl 0 1 es :: .gone 0 :: .gone 0 :: .int .u64 n :: .gone 0 :: .gone 0 :: .int .i64 (8 : Nat) :: .isl 0 1 es :: .int .i64 es.length :: .int .i64 i :: .gone 0 :: .gone 0 :: .gone 0 :: .gone 0 :: .gone 0 :: .gone 0 :: .gone 0 :: .int .i64 (8 : Nat) :: .bool false :: .gone 0 :: .gone 0 :: .gone 0 :: .gone 0 :: .gone 0 :: .gone 0 :: .gone 0 :: .gone 0 :: []), objs := [] }
theorem rounds (es : List V) (i : Nat) (n : Nat) (k : Nat) (hk : k < 8) (h56 : cal 56 [.int .u64 n] [] = some (.int .u64 (stepN n : Nat), [])) :
    ∃ s, step cal its again 0 bodys (sts es n i k) = some (.normal, s) ∧ rebase? (some [0, 3, 6, 7, 8, 9]) 0 s = sts es (stepN n : Nat) i (k + 1) := by
  have hlt : decide ((k : Int) < 8) = true := by simp; omega
  have hadd := inc_i64 k (by omega)
  unfold bodys sts
  apply vround
  · repeat' (((first
      | (with_reducible exact Vq.runOps_nil)
      | ((with_reducible apply Vq.runOps_cons); (first | exact rfl | (apply Vq.vcallA; exact rfl; exact fun _ => rfl; exact rfl; (first | exact h56); (first | exact rfl | (simp [Vq.V.apart, Vq.V.leaves, Vq.V.noslice]; done) | (simp [Vq.V.apart, Vq.V.leaves, Vq.V.noslice]; assumption)); exact rfl)))
      | ((with_reducible first | apply Vq.vret | apply Vq.vskip | apply Vq.vexit | apply Vq.vab0 | apply Vq.vab1 | apply Vq.vabr); exact rfl)
      | ((with_reducible apply Vq.vregion); case hr => exact rfl)
      | (with_reducible first | apply Vq.vseq | apply Vq.vblock)
      | ((with_reducible apply Vq.vcond); exact rfl; dsimp only [Vq.pickC])
      | ((with_reducible apply Vq.vabx); (· decide); exact rfl) | dsimp only [Vq.afterSeq]); (try simp only [z1, z2, z3, z4, z5, z6, z7, z8, z9, z10, z11, z12, z13, z14, z15, z16, z17, z18, V.withLeaves, V.borrow, freeze1, borrows, borrow1, V.leaves, V.nextg, Nat.reduceAdd, Nat.reduceSub, layTup, obj1, splice, Bool.false_eq_true, if_true, if_false, Bool.not_true, Bool.not_false, hlt, hadd])))
  · exact rfl
theorem outs (es : List V) (i : Nat) (n : Int) : step cal its again 0 bodys (sts es n i 8) = some (.exit 2, exs es n i) := by
  have hlt : decide (((8 : Nat) : Int) < 8) = false := by decide
  unfold bodys sts exs
  repeat' (((first
      | (with_reducible exact Vq.runOps_nil)
      | ((with_reducible apply Vq.runOps_cons); (first | exact rfl))
      | ((with_reducible first | apply Vq.vret | apply Vq.vskip | apply Vq.vexit | apply Vq.vab0 | apply Vq.vab1 | apply Vq.vabr); exact rfl)
      | ((with_reducible apply Vq.vregion); case hr => exact rfl)
      | (with_reducible first | apply Vq.vseq | apply Vq.vblock)
      | ((with_reducible apply Vq.vcond); exact rfl; dsimp only [Vq.pickC])
      | ((with_reducible apply Vq.vabx); (· decide); exact rfl) | dsimp only [Vq.afterSeq]); (try simp only [z1, z2, z3, z4, z5, z6, z7, z8, z9, z10, z11, z12, z13, z14, z15, z16, z17, z18, V.withLeaves, V.borrow, freeze1, borrows, borrow1, V.leaves, V.nextg, Nat.reduceAdd, Nat.reduceSub, layTup, obj1, splice, Bool.false_eq_true, if_true, if_false, Bool.not_true, Bool.not_false, hlt])))
theorem loops (G : VProg) (es : List V) (i : Nat) (h56 : ∀ (n m : Nat), n < 2 ^ 32 → 1 ≤ m → call G m 56 [.int .u64 n] [] = some (.int .u64 (stepN n : Nat), [])) : ∀ (j k m : Nat) (n : Nat) (σ : St), n < 2 ^ 32 → k + j = 8 → j + 1 ≤ m → rebase? (some [0, 3, 6, 7, 8, 9]) 0 σ = sts es n i k →
    step (call G m) (itersOf G) (exec G m) 0 (.loop (some [0, 3, 6, 7, 8, 9]) bodys) σ = some (.exit 2, exs es (halN j n : Nat) i)
  | 0, k, m, n, σ, hn, hi, hm, hr => by
    obtain rfl : k = 8 := by omega
    exact step_loop_out hr (outs _ _ _ es i _) (by intro e; cases e)
  | j + 1, k, m, n, σ, hn, hi, hm, hr => by
    cases m with
    | zero => omega
    | succ m =>
    obtain ⟨r, h1, h2⟩ := rounds (call G (m + 1)) (itersOf G) (exec G (m + 1)) es i n k (by omega) (h56 n _ hn (by omega))
    refine step_loop hr h1 ?_
    rw [exec_succ, loops G es i h56 j (k + 1) m _ r (stepN_lt n hn) (by omega) (by omega) h2]
    rfl
def bodyr : VCode := (.seq (.region [{ dst := (some 10), op := .bin (.lss) (.tmp 9) (.tmp 8), guard := none, before := 0 }] false) (.seq (.cond (.tmp 10) (.skip) (.exit 0)) (.seq (.block 1 (some [0, 3, 7, 8, 9]) (.seq (.region [{ dst := (some 11), op := .indexAddr none 1 (.tmp 7) (.tmp 9), guard := none, before := 0 }, { dst := (some 12), op := .load false 1 (.tmp 11), guard := none, before := 1 }, { dst := (some 5), op := .assign (.tmp 12), guard := none, before := 3 }] false) (.seq (.region [{ dst := (some 13), op := .move (.tmp 3), guard := none, before := 0 }, { dst := (some 14), op := .move (.tmp 5), guard := none, before := 0 }, { dst := (some 15), op := .conv (.int (.u64)) (.tmp 14), guard := none, before := 2 }, { dst := (some 16), op := .bin (.xor) (.tmp 13) (.tmp 15), guard := none, before := 7 }, { dst := (some 3), op := .assign (.tmp 16), guard := none, before := 15 }] false) (.seq (.region [{ dst := (some 6), op := .assign (.val (.int .i64 0)), guard := none, before := 0 }] false) (.block 2 (some [0, 3, 7, 8, 9]) (.loop (some [0, 3, 6, 7, 8, 9]) (.seq (.seq (.region [{ dst := (some 17), op := .move (.tmp 6), guard := none, before := 0 }, { dst := (some 18), op := .bin (.lss) (.tmp 17) (.val (.int .i64 8)), guard := none, before := 1 }] false) (.cond (.tmp 18) (.skip) (.exit 2))) (.seq (.block 3 none (.region [{ dst := (some 21), op := .move (.tmp 3), guard := none, before := 0 }, { dst := (some 22), op := .call true 56 0 [(.tmp 21)], guard := none, before := 1 }, { dst := (some 3), op := .assign (.tmp 22), guard := none, before := 3 }] false)) (.region [{ dst := (some 19), op := .move (.tmp 6), guard := none, before := 0 }, { dst := (some 20), op := .bin (.add) (.tmp 19) (.val (.int .i64 1)), guard := none, before := 1 }, { dst := (some 6), op := .assign (.tmp 20), guard := none, before := 3 }] false))))))))) (.region [{ dst := (some 23), op := .bin (.add) (.tmp 9) (.val (.int .i64 1)), guard := none, before := 0 }, { dst := (some 9), op := .move (.tmp 23), guard := none, before := 1 }] false))))
def str (es : List V) (n : Int) (i : Nat) : St :=
  { slots := (.isl 0 1 es :: .gone 0 :: .gone 0 :: .int .u64 n :: .gone 0 :: .gone 0 :: .gone 0 :: .isl 0 1 es :: .int .i64 es.length :: .int .i64 i :: .gone 0 :: .gone 0 :: .gone 0 :: .gone 0 :: .gone 0 :: .gone 0 :: .gone 0 :: .gone 0 :: .gone 0 :: .gone 0 :: .gone 0 :: .gone 0 :: .gone 0 :: .gone 0 :: .gone 0 :: .gone 0 :: .gone 0 :: []), objs := [] }
def exr (es : List V) (n : Int) (i : Nat) : St :=
  { slots := (.isl 0 1 es :: .gone 0 :: .gone 0 :: .int .u64 n :: .gone 0 :: .gone 0 :: .gone 0 :: .isl 0 1 es :: .int .i64 es.length :: .int .i64 i :: .bool false :: .gone 0 :: .gone 0 :: .gone 0 :: .gone 0 :: .gone 0 :: .gone 0 :: .gone 0 :: .gone 0 :: .gone 0 :: .gone 0 :: .gone 0 :: .gone 0 :: .gone 0 :: .gone 0 :: .gone 0 :: .gone 0 :: []), objs := [] }
theorem wrap64x (n x : Nat) (hn : n < 2 ^ 32) (hx : x < 256) : IntKind.u64.wrap (BitVec.ofInt 64 (n : Int) ^^^ BitVec.ofInt 64 (IntKind.u64.wrap (x : Int))).toNat = ((n ^^^ x : Nat) : Int) := by
  have := Nat.xor_lt_two_pow hn (show x < 2 ^ 32 by omega)
  rw [wrap64 x (by omega), xorN _ _ (by omega) (by omega), wrap64 _ (by omega)]
theorem roundr (G : VProg) (l : List Nat) (n : Nat) (hn : n < 2 ^ 32) (hl : l.length < 2 ^ 40) (hx : ∀ x ∈ l, x < 256) (i : Nat) (hi : i < l.length)
    (h56 : ∀ (n m : Nat), n < 2 ^ 32 → 1 ≤ m → call G m 56 [.int .u64 n] [] = some (.int .u64 (stepN n : Nat), [])) (m : Nat) (hm : 9 ≤ m) :
    ∃ s, step (call G m) (itersOf G) (exec G m) 0 bodyr (str (byN l) n i) = some (.normal, s) ∧ rebase? (some [0, 3, 7, 8, 9]) 0 s = str (byN l) (onB n l[i] : Nat) (i + 1) := by
  have hg := byN_get l i hi
  have hlt : decide ((i : Int) < ((byN l).length : Int)) = true := by rw [byN_len]; simp; omega
  have hadd := inc_i64 i (by omega)
  have hxi := hx l[i] (List.getElem_mem hi)
  have hw : IntKind.u64.wrap (BitVec.ofInt IntKind.u64.bits (n : Int) ^^^ BitVec.ofInt IntKind.u64.bits (IntKind.u64.wrap ((l[i] : Nat) : Int))).toNat = ((n ^^^ l[i] : Nat) : Int) := wrap64x n l[i] hn hxi
  unfold bodyr str
  apply vround
  · (with_reducible apply Vq.vseq)
    · repeat' (((first
      | (with_reducible exact Vq.runOps_nil)
      | ((with_reducible apply Vq.runOps_cons); (first | exact rfl))
      | ((with_reducible first | apply Vq.vret | apply Vq.vskip | apply Vq.vexit | apply Vq.vab0 | apply Vq.vab1 | apply Vq.vabr); exact rfl)
      | ((with_reducible apply Vq.vregion); case hr => exact rfl)
      | (with_reducible first | apply Vq.vseq | apply Vq.vblock)
      | ((with_reducible apply Vq.vcond); exact rfl; dsimp only [Vq.pickC])
      | ((with_reducible apply Vq.vabx); (· decide); exact rfl) | dsimp only [Vq.afterSeq]); (try simp only [z1, z2, z3, z4, z5, z6, z7, z8, z9, z10, z11, z12, z13, z14, z15, z16, z17, z18, V.withLeaves, V.borrow, freeze1, borrows, borrow1, V.leaves, V.nextg, Nat.reduceAdd, Nat.reduceSub, layTup, obj1, splice, Bool.false_eq_true, if_true, if_false, Bool.not_true, Bool.not_false, hlt])))
    dsimp only [afterSeq]
    (with_reducible apply Vq.vseq)
    · repeat' (((first
      | (with_reducible exact Vq.runOps_nil)
      | ((with_reducible apply Vq.runOps_cons); (first | exact rfl))
      | ((with_reducible first | apply Vq.vret | apply Vq.vskip | apply Vq.vexit | apply Vq.vab0 | apply Vq.vab1 | apply Vq.vabr); exact rfl)
      | ((with_reducible apply Vq.vregion); case hr => exact rfl)
      | (with_reducible first | apply Vq.vseq | apply Vq.vblock)
      | ((with_reducible apply Vq.vcond); exact rfl; dsimp only [Vq.pickC])
      | ((with_reducible apply Vq.vabx); (· decide); exact rfl) | dsimp only [Vq.afterSeq]); (try simp only [z1, z2, z3, z4, z5, z6, z7, z8, z9, z10, z11, z12, z13, z14, z15, z16, z17, z18, V.withLeaves, V.borrow, freeze1, borrows, borrow1, V.leaves, V.nextg, Nat.reduceAdd, Nat.reduceSub, layTup, obj1, splice, Bool.false_eq_true, if_true, if_false, Bool.not_true, Bool.not_false, hlt])))
    dsimp only [afterSeq]
    (with_reducible apply Vq.vseq)
    · (with_reducible apply vblock)
      · (with_reducible apply Vq.vseq)
        · (with_reducible apply Vq.vregion); case hr => exact rfl
          (with_reducible apply Vq.runOps_cons)
          · apply vidx rfl rfl (.inl rfl) (by omega) hg
            exact rfl
          (try simp only [z1, z2, z3, z4, z5, z6, z7, z8, z9, z10, z11, z12, z13, z14, z15, z16, z17, z18, V.withLeaves, V.borrow, freeze1, borrows, borrow1, V.leaves, V.nextg, Nat.reduceAdd, Nat.reduceSub, layTup, obj1, splice, Bool.false_eq_true, if_true, if_false, Bool.not_true, Bool.not_false])
          repeat' (((first
      | (with_reducible exact Vq.runOps_nil)
      | ((with_reducible apply Vq.runOps_cons); (first | exact rfl))
      | ((with_reducible first | apply Vq.vret | apply Vq.vskip | apply Vq.vexit | apply Vq.vab0 | apply Vq.vab1 | apply Vq.vabr); exact rfl)
      | ((with_reducible apply Vq.vregion); case hr => exact rfl)
      | (with_reducible first | apply Vq.vseq | apply Vq.vblock)
      | ((with_reducible apply Vq.vcond); exact rfl; dsimp only [Vq.pickC])
      | ((with_reducible apply Vq.vabx); (· decide); exact rfl) | dsimp only [Vq.afterSeq]); (try simp only [z1, z2, z3, z4, z5, z6, z7, z8, z9, z10, z11, z12, z13, z14, z15, z16, z17, z18, V.withLeaves, V.borrow, freeze1, borrows, borrow1, V.leaves, V.nextg, Nat.reduceAdd, Nat.reduceSub, layTup, obj1, splice, Bool.false_eq_true, if_true, if_false, Bool.not_true, Bool.not_false])))
        dsimp only [afterSeq]
        (with_reducible apply Vq.vseq)
        · repeat' (((first
      | (with_reducible exact Vq.runOps_nil)
      | ((with_reducible apply Vq.runOps_cons); (first | exact rfl))
      | ((with_reducible first | apply Vq.vret | apply Vq.vskip | apply Vq.vexit | apply Vq.vab0 | apply Vq.vab1 | apply Vq.vabr); exact rfl)
      | ((with_reducible apply Vq.vregion); case hr => exact rfl)
      | (with_reducible first | apply Vq.vseq | apply Vq.vblock)
      | ((with_reducible apply Vq.vcond); exact rfl; dsimp only [Vq.pickC])
      | ((with_reducible apply Vq.vabx); (· decide); exact rfl) | dsimp only [Vq.afterSeq]); (try simp only [z1, z2, z3, z4, z5, z6, z7, z8, z9, z10, z11, z12, z13, z14, z15, z16, z17, z18, V.withLeaves, V.borrow, freeze1, borrows, borrow1, V.leaves, V.nextg, Nat.reduceAdd, Nat.reduceSub, layTup, obj1, splice, Bool.false_eq_true, if_true, if_false, Bool.not_true, Bool.not_false, hw])))
        dsimp only [afterSeq]
        (with_reducible apply Vq.vseq)
        · repeat' (((first
      | (with_reducible exact Vq.runOps_nil)
      | ((with_reducible apply Vq.runOps_cons); (first | exact rfl))
      | ((with_reducible first | apply Vq.vret | apply Vq.vskip | apply Vq.vexit | apply Vq.vab0 | apply Vq.vab1 | apply Vq.vabr); exact rfl)
      | ((with_reducible apply Vq.vregion); case hr => exact rfl)
      | (with_reducible first | apply Vq.vseq | apply Vq.vblock)
      | ((with_reducible apply Vq.vcond); exact rfl; dsimp only [Vq.pickC])
      | ((with_reducible apply Vq.vabx); (· decide); exact rfl) | dsimp only [Vq.afterSeq]); (try simp only [z1, z2, z3, z4, z5, z6, z7, z8, z9, z10, z11, z12, z13, z14, z15, z16, z17, z18, V.withLeaves, V.borrow, freeze1, borrows, borrow1, V.leaves, V.nextg, Nat.reduceAdd, Nat.reduceSub, layTup, obj1, splice, Bool.false_eq_true, if_true, if_false, Bool.not_true, Bool.not_false])))
        dsimp only [afterSeq]
        (with_reducible apply vblock)
        · exact loops G (byN l) i h56 8 0 m (n ^^^ l[i]) _ (Nat.xor_lt_two_pow hn (by omega)) (by omega) (by omega) rfl
        · apply vabkx (τ := str (byN l) (onB n l[i] : Nat) i) rfl
          exact rfl
      · apply vabk (τ := str (byN l) (onB n l[i] : Nat) i)
        · exact rfl
        · exact rfl
    dsimp only [afterSeq]
    unfold str
    repeat' (((first
      | (with_reducible exact Vq.runOps_nil)
      | ((with_reducible apply Vq.runOps_cons); (first | exact rfl))
      | ((with_reducible first | apply Vq.vret | apply Vq.vskip | apply Vq.vexit | apply Vq.vab0 | apply Vq.vab1 | apply Vq.vabr); exact rfl)
      | ((with_reducible apply Vq.vregion); case hr => exact rfl)
      | (with_reducible first | apply Vq.vseq | apply Vq.vblock)
      | ((with_reducible apply Vq.vcond); exact rfl; dsimp only [Vq.pickC])
      | ((with_reducible apply Vq.vabx); (· decide); exact rfl) | dsimp only [Vq.afterSeq]); (try simp only [z1, z2, z3, z4, z5, z6, z7, z8, z9, z10, z11, z12, z13, z14, z15, z16, z17, z18, V.withLeaves, V.borrow, freeze1, borrows, borrow1, V.leaves, V.nextg, Nat.reduceAdd, Nat.reduceSub, layTup, obj1, splice, Bool.false_eq_true, if_true, if_false, Bool.not_true, Bool.not_false, hadd])))
  · exact rfl
theorem outr (l : List Nat) (n : Int) (i : Nat) (hi : l.length ≤ i) : step cal its again 0 bodyr (str (byN l) n i) = some (.exit 0, exr (byN l) n i) := by
  have hlt : decide ((i : Int) < ((byN l).length : Int)) = false := by rw [byN_len]; simp; omega
  unfold bodyr str exr
  repeat' (((first
      | (with_reducible exact Vq.runOps_nil)
      | ((with_reducible apply Vq.runOps_cons); (first | exact rfl))
      | ((with_reducible first | apply Vq.vret | apply Vq.vskip | apply Vq.vexit | apply Vq.vab0 | apply Vq.vab1 | apply Vq.vabr); exact rfl)
      | ((with_reducible apply Vq.vregion); case hr => exact rfl)
      | (with_reducible first | apply Vq.vseq | apply Vq.vblock)
      | ((with_reducible apply Vq.vcond); exact rfl; dsimp only [Vq.pickC])
      | ((with_reducible apply Vq.vabx); (· decide); exact rfl) | dsimp only [Vq.afterSeq]); (try simp only [z1, z2, z3, z4, z5, z6, z7, z8, z9, z10, z11, z12, z13, z14, z15, z16, z17, z18, V.withLeaves, V.borrow, freeze1, borrows, borrow1, V.leaves, V.nextg, Nat.reduceAdd, Nat.reduceSub, layTup, obj1, splice, Bool.false_eq_true, if_true, if_false, Bool.not_true, Bool.not_false, hlt])))
theorem loopr (G : VProg) (l : List Nat) (hl : l.length < 2 ^ 40) (hx : ∀ x ∈ l, x < 256)
    (h56 : ∀ (n m : Nat), n < 2 ^ 32 → 1 ≤ m → call G m 56 [.int .u64 n] [] = some (.int .u64 (stepN n : Nat), [])) : ∀ (j i m : Nat) (n : Nat) (σ : St), n < 2 ^ 32 → i + j = l.length → j + 9 ≤ m → rebase? (some [0, 3, 7, 8, 9]) 0 σ = str (byN l) n i →
    step (call G m) (itersOf G) (exec G m) 0 (.loop (some [0, 3, 7, 8, 9]) bodyr) σ = some (.exit 0, exr (byN l) (crcN n (l.drop i) : Nat) l.length)
  | 0, i, m, n, σ, hn, hi, hm, hr => by
    obtain rfl : i = l.length := by omega
    refine step_loop_out hr ?_ (by intro e; cases e)
    rw [List.drop_length]
    exact outr _ _ _ l n _ (Nat.le_refl _)
  | j + 1, i, m, n, σ, hn, hi, hm, hr => by
    cases m with
    | zero => omega
    | succ m =>
    obtain ⟨r, h1, h2⟩ := roundr G l n hn hl hx i (by omega) h56 (m + 1) (by omega)
    refine step_loop hr h1 ?_
    rw [exec_succ, loopr G l hl hx h56 j (i + 1) m _ r (onB_lt _ _ hn (hx _ (List.getElem_mem (by omega)))) (by omega) (by omega) h2]
    rw [List.drop_eq_getElem_cons (show i < l.length by omega)]
    rfl
theorem of51 (G : VProg) (hG : G 51 = some (.code v51)) (l : List Nat) (hl : l.length < 2 ^ 40) (hx : ∀ x ∈ l, x < 256)
    (h56 : ∀ (n m : Nat), n < 2 ^ 32 → 1 ≤ m → call G m 56 [.int .u64 n] [] = some (.int .u64 (stepN n : Nat), [])) (m : Nat) (hm : l.length + 12 ≤ m) :
    call G m 51 [.isl 0 1 (byN l)] [] = some (.int .u32 (crc l : Nat), []) := by
  obtain ⟨m, rfl⟩ : ∃ k, m = k + 1 := ⟨m - 1, by omega⟩
  have hb := crcN_lt l 4294967295 (by decide) hx
  have hw : IntKind.u32.wrap (IntKind.u64.wrap (4294967295 - ((crcN 4294967295 l : Nat) : Int))) = ((crc l : Nat) : Int) := by
    have e : (4294967295 : Int) - ((crcN 4294967295 l : Nat) : Int) = ((4294967295 - crcN 4294967295 l : Nat) : Int) := by omega
    rw [e, wrap64 _ (by omega), wrap32 _ (by omega)]
    rfl
  apply call_code (o := .ret) hG ⟨rfl, by decide⟩
  · change step (call G m) (itersOf G) (exec G m) 0 b51 _ = _
    (try simp only [Vq.start, List.length_cons, List.length_nil, List.map_cons, List.map_nil, List.cons_append, List.nil_append, List.replicate_succ, List.replicate_zero, Nat.reduceAdd, Nat.reduceSub, v51])
    unfold b51
    (with_reducible apply Vq.vseq)
    · repeat' (((first
      | (with_reducible exact Vq.runOps_nil)
      | ((with_reducible apply Vq.runOps_cons); (first | exact rfl))
      | ((with_reducible first | apply Vq.vret | apply Vq.vskip | apply Vq.vexit | apply Vq.vab0 | apply Vq.vab1 | apply Vq.vabr); exact rfl)
      | ((with_reducible apply Vq.vregion); case hr => exact rfl)
      | (with_reducible first | apply Vq.vseq | apply Vq.vblock)
      | ((with_reducible apply Vq.vcond); exact rfl; dsimp only [Vq.pickC])
      | ((with_reducible apply Vq.vabx); (· decide); exact rfl) | dsimp only [Vq.afterSeq]); (try simp only [z1, z2, z3, z4, z5, z6, z7, z8, z9, z10, z11, z12, z13, z14, z15, z16, z17, z18, V.withLeaves, V.borrow, freeze1, borrows, borrow1, V.leaves, V.nextg, Nat.reduceAdd, Nat.reduceSub, layTup, obj1, splice, Bool.false_eq_true, if_true, if_false, Bool.not_true, Bool.not_false])))
    dsimp only [afterSeq]
    (with_reducible apply Vq.vseq)
    · repeat' (((first
      | (with_reducible exact Vq.runOps_nil)
      | ((with_reducible apply Vq.runOps_cons); (first | exact rfl))
      | ((with_reducible first | apply Vq.vret | apply Vq.vskip | apply Vq.vexit | apply Vq.vab0 | apply Vq.vab1 | apply Vq.vabr); exact rfl)
      | ((with_reducible apply Vq.vregion); case hr => exact rfl)
      | (with_reducible first | apply Vq.vseq | apply Vq.vblock)
      | ((with_reducible apply Vq.vcond); exact rfl; dsimp only [Vq.pickC])
      | ((with_reducible apply Vq.vabx); (· decide); exact rfl) | dsimp only [Vq.afterSeq]); (try simp only [z1, z2, z3, z4, z5, z6, z7, z8, z9, z10, z11, z12, z13, z14, z15, z16, z17, z18, V.withLeaves, V.borrow, freeze1, borrows, borrow1, V.leaves, V.nextg, Nat.reduceAdd, Nat.reduceSub, layTup, obj1, splice, Bool.false_eq_true, if_true, if_false, Bool.not_true, Bool.not_false])))
    dsimp only [afterSeq]
    (with_reducible apply Vq.vseq)
    · (with_reducible apply Vq.vseq)
      · repeat' (((first
      | (with_reducible exact Vq.runOps_nil)
      | ((with_reducible apply Vq.runOps_cons); (first | exact rfl))
      | ((with_reducible first | apply Vq.vret | apply Vq.vskip | apply Vq.vexit | apply Vq.vab0 | apply Vq.vab1 | apply Vq.vabr); exact rfl)
      | ((with_reducible apply Vq.vregion); case hr => exact rfl)
      | (with_reducible first | apply Vq.vseq | apply Vq.vblock)
      | ((with_reducible apply Vq.vcond); exact rfl; dsimp only [Vq.pickC])
      | ((with_reducible apply Vq.vabx); (· decide); exact rfl) | dsimp only [Vq.afterSeq]); (try simp only [z1, z2, z3, z4, z5, z6, z7, z8, z9, z10, z11, z12, z13, z14, z15, z16, z17, z18, V.withLeaves, V.borrow, freeze1, borrows, borrow1, V.leaves, V.nextg, Nat.reduceAdd, Nat.reduceSub, layTup, obj1, splice, Bool.false_eq_true, if_true, if_false, Bool.not_true, Bool.not_false])))
      dsimp only [afterSeq]
      (with_reducible apply vblock)
      · exact loopr G l hl hx h56 l.length 0 m 4294967295 _ (by decide) (by omega) (by omega) rfl
      · apply vabkx (τ := { slots := (.gone 0 :: .gone 0 :: .gone 0 :: .int .u64 (crcN 4294967295 l : Nat) :: .gone 0 :: .gone 0 :: .gone 0 :: .gone 0 :: .gone 0 :: .gone 0 :: .gone 0 :: .gone 0 :: .gone 0 :: .gone 0 :: .gone 0 :: .gone 0 :: .gone 0 :: .gone 0 :: .gone 0 :: .gone 0 :: .gone 0 :: .gone 0 :: .gone 0 :: .gone 0 :: .gone 0 :: .gone 0 :: .gone 0 :: []), objs := [] }) rfl
        exact rfl
    dsimp only [afterSeq]
    repeat' (((first
      | (with_reducible exact Vq.runOps_nil)
      | ((with_reducible apply Vq.runOps_cons); (first | exact rfl))
      | ((with_reducible first | apply Vq.vret | apply Vq.vskip | apply Vq.vexit | apply Vq.vab0 | apply Vq.vab1 | apply Vq.vabr); exact rfl)
      | ((with_reducible apply Vq.vregion); case hr => exact rfl)
      | (with_reducible first | apply Vq.vseq | apply Vq.vblock)
      | ((with_reducible apply Vq.vcond); exact rfl; dsimp only [Vq.pickC])
      | ((with_reducible apply Vq.vabx); (· decide); exact rfl) | dsimp only [Vq.afterSeq]); (try simp only [z1, z2, z3, z4, z5, z6, z7, z8, z9, z10, z11, z12, z13, z14, z15, z16, z17, z18, V.withLeaves, V.borrow, freeze1, borrows, borrow1, V.leaves, V.nextg, Nat.reduceAdd, Nat.reduceSub, layTup, obj1, splice, Bool.false_eq_true, if_true, if_false, Bool.not_true, Bool.not_false, hw])))
  · exact .inr rfl
  · first | exact rfl | (apply Vq.vfin; (· apply Vq.run_asks; (· simp); (try simp only [List.take_length, List.drop_zero]); (first | apply Vq.run_if trivial | apply Vq.run_if rfl); unfold Vq.sHome; simp only [Vq.Prog.run]; apply Vq.run_asks; (· exact Nat.zero_lt_one); exact rfl); (· exact rfl); (· exact rfl); (· decide); (· exact rfl); (· exact rfl))
end S9
end Go.Vq

namespace Go.Vq
namespace S10
open Go S2 S3 S4 S5 S6 S7 S8 S9
set_option maxRecDepth 1000000
section
variable {cal : Callee} {σ τ : St} {base : Nat}
/-- What an operand that is a slice of bytes shows. -/
inductive Shows (v : V) (xs : List V) : Prop
  | isl (g : Nat) (h : v = .isl g 1 xs)
  | xsl (g : Nat) (h : v = .xsl g 1 xs)
theorem vapp {d : Option Nat} {a x bf g : Nat} {es xs : List V} (hx : Shows (σ.slot x) xs) (ha : σ.slot a = .xsl g 1 es) (hb : (es.length + xs.length) * 1 ≤ 140737488355328) (hp : (drain (.tmp a) (putO d (.xsl 0 1 (es ++ xs)) .ret)).run σ = some τ) :
    (VOper.prog cal base ⟨d, .append 1 1 (.tmp a) (.tmp x), none, bf⟩).run σ = some τ := by
  rcases hx with ⟨g', hx⟩ | ⟨g', hx⟩
  all_goals
    simp only [VOper.prog, opProg, gOpd, Prog.run, hx, gView, ha, if_true, true_and, if_pos hb]
    exact hp
theorem vapp_foot {d : Option Nat} {a x bf g : Nat} {es xs : List V} {fr : List Loc × List Loc} (hx : Shows (σ.slot x) xs) (ha : σ.slot a = .xsl g 1 es) (hb : (es.length + xs.length) * 1 ≤ 140737488355328) (hp : (drain (.tmp a) (putO d (.xsl 0 1 (es ++ xs)) .ret)).foot σ = fr) :
    (VOper.prog cal base ⟨d, .append 1 1 (.tmp a) (.tmp x), none, bf⟩).foot σ = (.slot x :: .slot a :: fr.1, fr.2) := by
  rcases hx with ⟨g', hx⟩ | ⟨g', hx⟩
  all_goals
    simp only [VOper.prog, opProg, gOpd, Prog.foot, hx, gView, ha, if_true, true_and, if_pos hb, hp]
theorem vbs1 {d : Option Nat} {x y bf : Nat} {z : V} {es : List V} (hx : σ.slot x = .srf (.slot y 0) 0 1 0 es.length) (hy : σ.slot y = .xsl 0 1 es) (hp : (putO d (.xsl 0 1 [.isl 0 1 es]) .ret).run (σ.setS y (.fsl 0 1 es)) = some τ) :
    (VOper.prog cal base ⟨d, .buildSlice 1 [z] [(0, .tmp x)], none, bf⟩).run σ = some τ := by
  have e : List.take es.length (List.drop 0 es) = es := by simp
  simp only [VOper.prog, opProg, buildSliceP, gImm, gOpd, Prog.run, hx, V.plain, drain, V.hasX, V.leaves, settle, settle1, gHome, hy, List.getElem?_cons_zero, and_self, if_true, Nat.zero_add, Nat.le_refl, e, true_and, reduceCtorEq, if_false, sHome, List.length_cons, List.length_nil, Nat.zero_lt_one, List.map_cons, List.map_nil, freeze1, V.inElem, List.all_cons, List.all_nil, Bool.and_self, V.withLeaves, List.headD_cons, V.cells, V.here, List.set_cons_zero, Bool.false_eq_true, List.any_cons, List.any_nil, Bool.or_self]
  exact hp
theorem vappF {d : Option Nat} {a x y bf g : Nat} {es xs : List V} (hx : Shows (σ.slot x) xs) (ha : σ.slot a = .srf (.slot y 0) g 1 0 es.length) (hy : σ.slot y = .fsl g 1 es) (hb : (es.length + xs.length) * 1 ≤ 140737488355328) (hp : (putO d (.fsl 0 1 (es ++ xs)) .ret).run (σ.setS y (.gone (g + 1))) = some τ) :
    (VOper.prog cal base ⟨d, .append 1 1 (.tmp a) (.tmp x), none, bf⟩).run σ = some τ := by
  have e : List.take es.length (List.drop 0 es) = es := by simp
  rcases hx with ⟨g', hx⟩ | ⟨g', hx⟩
  all_goals
    simp only [VOper.prog, opProg, gOpd, Prog.run, hx, gView, ha, if_true, true_and, settle1, gHome, hy, V.leaves, List.getElem?_cons_zero, and_self, Nat.zero_add, Nat.le_refl, e, sHome, List.length_cons, List.length_nil, Nat.zero_lt_one, V.withLeaves, List.set_cons_zero, List.headD_cons, if_pos hb]
    exact hp
theorem vappL {d : Option Nat} {a x y bf g : Nat} {es xs : List V} (hx : Shows (σ.slot x) xs) (ha : σ.slot a = .srf (.slot y 0) g 1 0 es.length) (hy : σ.slot y = .xsl g 1 es) (hb : (es.length + xs.length) * 1 ≤ 140737488355328) (hp : (putO d (.xsl 0 1 (es ++ xs)) .ret).run (σ.setS y (.gone (g + 1))) = some τ) :
    (VOper.prog cal base ⟨d, .append 1 1 (.tmp a) (.tmp x), none, bf⟩).run σ = some τ := by
  have e : List.take es.length (List.drop 0 es) = es := by simp
  rcases hx with ⟨g', hx⟩ | ⟨g', hx⟩
  all_goals
    simp only [VOper.prog, opProg, gOpd, Prog.run, hx, gView, ha, if_true, true_and, settle1, gHome, hy, V.leaves, List.getElem?_cons_zero, and_self, Nat.zero_add, Nat.le_refl, e, sHome, List.length_cons, List.length_nil, Nat.zero_lt_one, V.withLeaves, List.set_cons_zero, List.headD_cons, if_pos hb]
    exact hp
end
/-! ### numbers' bytes -/
theorem byN_app (a b : List Nat) : byN (a ++ b) = byN a ++ byN b := by simp [byN]
theorem pre_enc : ∀ (k N : Nat), N < 128 ^ (k + 1) → N < 18446744073709551616 → pre k (N : Int) ++ [.int .u8 (IntKind.u8.wrap (lst k (N : Int)))] = byN (enc k N)
  | 0, N, h, _ => by
    have e : IntKind.u8.wrap (N : Int) = ((N % 256 : Nat) : Int) := by rw [wrap8]; rfl
    simp only [pre, lst, enc, List.nil_append, e]
    rfl
  | k + 1, N, h, h2 => by
    have hd : ((N : Int).fdiv (2 ^ 7)) = ((N / 128 : Nat) : Int) := by rw [Int.fdiv_eq_ediv_of_nonneg _ (by decide)]; rfl
    unfold pre lst enc
    by_cases h1 : 128 ≤ N
    · have h' : (N : Int) ≥ 128 := by omega
      have ho : orb (N : Int) = V.int .u8 ((128 + N % 128 : Nat) : Int) := by
        rw [← orb_ref N (by omega) (by omega)]
        have e1 : IntKind.u64.wrap (128 + (N : Int).tmod 128) = ((128 + N % 128 : Nat) : Int) := by
          rw [Int.tmod_eq_emod_of_nonneg (by omega)]
          exact wrap64 (128 + N % 128) (by omega)
        rw [e1, wrap8]
        congr 1
        omega
      rw [if_pos h', if_pos h', if_pos h1, hd, ho, List.cons_append, pre_enc k (N / 128) (by rw [Nat.pow_succ] at h; omega) (by omega)]
      rfl
    · have h' : ¬ (N : Int) ≥ 128 := by omega
      have e : IntKind.u8.wrap (N : Int) = (N : Int) := by rw [wrap8]; omega
      rw [if_neg h', if_neg h', if_neg h1, e]
      rfl
theorem dg_enc (N : Nat) (h : N < 18446744073709551616) : dg (N : Int) = byN (enc 9 N) := pre_enc 9 N (by omega) h
theorem enc_lt : ∀ (k N : Nat), ∀ x ∈ enc k N, x < 256
  | 0, N, x, hx => by simp [enc] at hx; omega
  | k + 1, N, x, hx => by
    unfold enc at hx
    split at hx
    · rcases List.mem_cons.1 hx with rfl | hx
      · omega
      · exact enc_lt k _ x hx
    · simp at hx; omega
theorem enc_len : ∀ (k N : Nat), (enc k N).length ≤ k + 1
  | 0, N => by simp [enc]
  | k + 1, N => by
    unfold enc
    split
    · have := enc_len k (N / 128); simp; omega
    · simp
def frm (k : Nat) (bl : List Nat) : List Nat := [167, 1, k] ++ enc 9 bl.length ++ bl
def four (c : Nat) : List Nat := [c % 256, c / 256 % 256, c / 65536 % 256, c / 16777216 % 256]
def full (k : Nat) (bl : List Nat) : List Nat := frm k bl ++ four (crc (frm k bl))
theorem frm_lt (k : Nat) (bl : List Nat) (hk : k < 256) (hb : ∀ x ∈ bl, x < 256) : ∀ x ∈ frm k bl, x < 256 := by
  intro x hx
  simp only [frm, List.mem_append, List.mem_cons, List.not_mem_nil, or_false] at hx
  rcases hx with (hx | hx) | hx
  · omega
  · exact enc_lt _ _ x hx
  · exact hb x hx
theorem frm_len (k : Nat) (bl : List Nat) : (frm k bl).length ≤ bl.length + 13 := by have := enc_len 9 bl.length; simp [frm]; omega
theorem crc_lt (l : List Nat) : crc l < 2 ^ 32 := by unfold crc; omega
/-! ### packhorseref06.Four -/
theorem four50 (G : VProg) (hG : G 50 = some (.code v50)) (c : Nat) (hc : c < 2 ^ 32) (m : Nat) (hm : 1 ≤ m) : call G m 50 [.int .u32 c] [] = some (.xsl 0 1 (byN (four c)), []) := by
  obtain ⟨m, rfl⟩ : ∃ k, m = k + 1 := ⟨m - 1, by omega⟩
  have t : ∀ a b : Nat, (a : Int).tmod (b : Int) = ((a % b : Nat) : Int) := fun a b => by rw [Int.tmod_eq_emod_of_nonneg (by omega)]; rfl
  have q : ∀ b : Nat, IntKind.u32.wrap ((c : Int).tdiv (b : Int)) = ((c / b : Nat) : Int) := fun b => by
    rw [Int.tdiv_eq_ediv_of_nonneg (by omega)]
    exact wrap32 (c / b) (Nat.lt_of_le_of_lt (Nat.div_le_self _ _) hc)
  have w : ∀ a : Nat, IntKind.u8.wrap ((a % 256 : Nat) : Int) = ((a % 256 : Nat) : Int) := fun a => by rw [wrap8]; omega
  have w1 : IntKind.u8.wrap ((c : Int).tmod 256) = ((c % 256 : Nat) : Int) := by rw [show (256 : Int) = ((256 : Nat) : Int) from rfl, t, w]
  have w2 : IntKind.u8.wrap ((IntKind.u32.wrap ((c : Int).tdiv 256)).tmod 256) = ((c / 256 % 256 : Nat) : Int) := by rw [show (256 : Int) = ((256 : Nat) : Int) from rfl, q, t, w]
  have w3 : IntKind.u8.wrap ((IntKind.u32.wrap ((c : Int).tdiv 65536)).tmod 256) = ((c / 65536 % 256 : Nat) : Int) := by rw [show (65536 : Int) = ((65536 : Nat) : Int) from rfl, q, show (256 : Int) = ((256 : Nat) : Int) from rfl, t, w]
  have w4 : IntKind.u8.wrap (IntKind.u32.wrap ((c : Int).tdiv 16777216)) = ((c / 16777216 % 256 : Nat) : Int) := by rw [show (16777216 : Int) = ((16777216 : Nat) : Int) from rfl, q, wrap8]; omega
  apply call_code (o := .ret) hG ⟨rfl, by decide⟩
  · change step (call G m) (itersOf G) (exec G m) 0 b50 _ = _
    (try simp only [Vq.start, List.length_cons, List.length_nil, List.map_cons, List.map_nil, List.cons_append, List.nil_append, List.replicate_succ, List.replicate_zero, Nat.reduceAdd, Nat.reduceSub, v50])
    unfold b50
    repeat' (((first
      | (with_reducible exact Vq.runOps_nil)
      | ((with_reducible apply Vq.runOps_cons); (first | exact rfl))
      | ((with_reducible first | apply Vq.vret | apply Vq.vskip | apply Vq.vexit | apply Vq.vab0 | apply Vq.vab1 | apply Vq.vabr); exact rfl)
      | ((with_reducible apply Vq.vregion); case hr => exact rfl)
      | (with_reducible first | apply Vq.vseq | apply Vq.vblock)
      | ((with_reducible apply Vq.vcond); exact rfl; dsimp only [Vq.pickC])
      | ((with_reducible apply Vq.vabx); (· decide); exact rfl) | dsimp only [Vq.afterSeq]); (try simp only [z1, z2, z3, z4, z5, z6, z7, z8, z9, z10, z11, z12, z13, z14, z15, z16, z17, z18, V.withLeaves, V.borrow, freeze1, borrows, borrow1, V.leaves, V.nextg, Nat.reduceAdd, Nat.reduceSub, layTup, obj1, splice, Bool.false_eq_true, if_true, if_false, Bool.not_true, Bool.not_false, w1, w2, w3, w4])))
  · exact .inr rfl
  · unfold four byN
    first | exact rfl | (apply Vq.vfin; (· apply Vq.run_asks; (· simp); (try simp only [List.take_length, List.drop_zero]); (first | apply Vq.run_if trivial | apply Vq.run_if rfl); unfold Vq.sHome; simp only [Vq.Prog.run]; apply Vq.run_asks; (· exact Nat.zero_lt_one); exact rfl); (· exact rfl); (· exact rfl); (· decide); (· exact rfl); (· exact rfl))
/-! ### packet.Frame -/
abbrev H35 (G : VProg) : Prop := ∀ (n : Int) (out : List V) (m : Nat), 0 ≤ n → n < 18446744073709551616 → (∀ x ∈ out, x.noslice = true) → out.length + 22 ≤ 140737488355328 → 12 ≤ m → call G m 35 [.isl 0 1 out, .isl 0 1 [.int .u64 n]] [] = some (.xsl 0 1 (out ++ dgs [n]), [])
abbrev H49 (G : VProg) : Prop := ∀ (l : List Nat) (m : Nat), l.length < 2 ^ 40 → (∀ x ∈ l, x < 256) → l.length + 12 ≤ m → call G m 49 [.isl 0 1 [.isl 0 1 (byN l)]] [] = some (.int .u32 (crc l : Nat), [])
theorem frame32 (G : VProg) (hG : G 32 = some (.code v32)) (h35 : H35 G) (h49 : H49 G) (k : Nat) (bl : List Nat) (hk : k < 256) (hb : ∀ x ∈ bl, x < 256) (hl : bl.length ≤ 65536) (m : Nat) (hm : bl.length + 40 ≤ m) :
    call G m 32 [.agg [.int .u8 k, .isl 0 1 (byN bl)]] [] = some (.tup [.fsl 0 1 (byN (full k bl)), .int .i64 0], []) := by
  obtain ⟨m, rfl⟩ : ∃ k, m = k + 1 := ⟨m - 1, by omega⟩
  have hgt : decide (((byN bl).length : Int) > 65536) = false := by rw [byN_len]; simp; omega
  have hwl : IntKind.u64.wrap ((byN bl).length : Int) = ((byN bl).length : Int) := wrap_u64 _ (by rw [byN_len]; omega)
  have hns := noslice_dgs [((byN bl).length : Int)]
  have hnb := byN_noslice bl
  have hcall := h35 ((byN bl).length : Int) [.int .u8 167, .int .u8 1, .int .u8 k] m (by omega) (by rw [byN_len]; omega) (by simp [V.noslice]) (by simp) (by omega)
  have hdl := dg_len (bl.length : Int)
  have hfr : (V.int .u8 167 :: V.int .u8 1 :: V.int .u8 k :: dgs [((byN bl).length : Int)]) ++ byN bl = byN (frm k bl) := by
    have e : dgs [((byN bl).length : Int)] = byN (enc 9 bl.length) := by
      simp only [dgs, List.flatMap_cons, List.flatMap_nil, List.append_nil, byN_len]
      exact dg_enc _ (by omega)
    rw [e]
    unfold frm
    rw [byN_app, byN_app]
    rfl
  have hfl := frm_len k bl
  have hsum := h49 (frm k bl) m (by omega) (frm_lt k bl hk hb) (by omega)
  have hc := crc_lt (frm k bl)
  have w1 : IntKind.u8.wrap ((crc (frm k bl) : Nat) : Int) = ((crc (frm k bl) % 256 : Nat) : Int) := by rw [wrap8]; rfl
  have w2' : IntKind.u8.wrap (((crc (frm k bl) : Nat) : Int).fdiv (2 ^ 8)) = ((crc (frm k bl) / 256 % 256 : Nat) : Int) := by rw [Int.fdiv_eq_ediv_of_nonneg _ (by decide), wrap8]; rfl
  have w3' : IntKind.u8.wrap (((crc (frm k bl) : Nat) : Int).fdiv (2 ^ 16)) = ((crc (frm k bl) / 65536 % 256 : Nat) : Int) := by rw [Int.fdiv_eq_ediv_of_nonneg _ (by decide), wrap8]; rfl
  have w4' : IntKind.u8.wrap (((crc (frm k bl) : Nat) : Int).fdiv (2 ^ 24)) = ((crc (frm k bl) / 16777216 % 256 : Nat) : Int) := by rw [Int.fdiv_eq_ediv_of_nonneg _ (by decide), wrap8]; rfl
  have w2 : IntKind.u8.wrap (((crc (frm k bl) : Nat) : Int).fdiv (2 ^ min (Int.toNat 8) IntKind.u32.bits)) = ((crc (frm k bl) / 256 % 256 : Nat) : Int) := w2'
  have w3 : IntKind.u8.wrap (((crc (frm k bl) : Nat) : Int).fdiv (2 ^ min (Int.toNat 16) IntKind.u32.bits)) = ((crc (frm k bl) / 65536 % 256 : Nat) : Int) := w3'
  have w4 : IntKind.u8.wrap (((crc (frm k bl) : Nat) : Int).fdiv (2 ^ min (Int.toNat 24) IntKind.u32.bits)) = ((crc (frm k bl) / 16777216 % 256 : Nat) : Int) := w4'
  apply call_code (o := .ret) hG ⟨rfl, by decide⟩
  · change step (call G m) (itersOf G) (exec G m) 0 b32 _ = _
    (try simp only [Vq.start, List.length_cons, List.length_nil, List.map_cons, List.map_nil, List.cons_append, List.nil_append, List.replicate_succ, List.replicate_zero, Nat.reduceAdd, Nat.reduceSub, v32])
    unfold b32
    (with_reducible apply Vq.vseq)
    · repeat' (((first
      | (with_reducible exact Vq.runOps_nil)
      | ((with_reducible apply Vq.runOps_cons); (first | exact rfl))
      | ((with_reducible first | apply Vq.vret | apply Vq.vskip | apply Vq.vexit | apply Vq.vab0 | apply Vq.vab1 | apply Vq.vabr); exact rfl)
      | ((with_reducible apply Vq.vregion); case hr => exact rfl)
      | (with_reducible first | apply Vq.vseq | apply Vq.vblock)
      | ((with_reducible apply Vq.vcond); exact rfl; dsimp only [Vq.pickC])
      | ((with_reducible apply Vq.vabx); (· decide); exact rfl) | dsimp only [Vq.afterSeq]); (try simp only [z1, z2, z3, z4, z5, z6, z7, z8, z9, z10, z11, z12, z13, z14, z15, z16, z17, z18, V.withLeaves, V.borrow, freeze1, borrows, borrow1, V.leaves, V.nextg, Nat.reduceAdd, Nat.reduceSub, layTup, obj1, splice, Bool.false_eq_true, if_true, if_false, Bool.not_true, Bool.not_false])))
    dsimp only [afterSeq]
    (with_reducible apply Vq.vseq)
    · repeat' (((first
      | (with_reducible exact Vq.runOps_nil)
      | ((with_reducible apply Vq.runOps_cons); (first | exact rfl))
      | ((with_reducible first | apply Vq.vret | apply Vq.vskip | apply Vq.vexit | apply Vq.vab0 | apply Vq.vab1 | apply Vq.vabr); exact rfl)
      | ((with_reducible apply Vq.vregion); case hr => exact rfl)
      | (with_reducible first | apply Vq.vseq | apply Vq.vblock)
      | ((with_reducible apply Vq.vcond); exact rfl; dsimp only [Vq.pickC])
      | ((with_reducible apply Vq.vabx); (· decide); exact rfl) | dsimp only [Vq.afterSeq]); (try simp only [z1, z2, z3, z4, z5, z6, z7, z8, z9, z10, z11, z12, z13, z14, z15, z16, z17, z18, V.withLeaves, V.borrow, freeze1, borrows, borrow1, V.leaves, V.nextg, Nat.reduceAdd, Nat.reduceSub, layTup, obj1, splice, Bool.false_eq_true, if_true, if_false, Bool.not_true, Bool.not_false, hgt])))
    dsimp only [afterSeq]
    (with_reducible apply Vq.vseq)
    · (with_reducible apply vdraw)
      case hr => exact rfl
      (apply Vq.runDraw_cons; exact rfl; exact rfl; exact rfl; (try simp only [z1, z2, z3, z4, z5, z6, z7, z8, z9, z10, z11, z12, z13, z14, z15, z16, z17, z18, V.withLeaves, V.borrow, freeze1, borrows, borrow1, V.leaves, V.nextg, Nat.reduceAdd, Nat.reduceSub, layTup, obj1, splice, Bool.false_eq_true, if_true, if_false, Bool.not_true, Bool.not_false]))
      (apply Vq.runDraw_cons; exact rfl; exact rfl; exact rfl; (try simp only [z1, z2, z3, z4, z5, z6, z7, z8, z9, z10, z11, z12, z13, z14, z15, z16, z17, z18, V.withLeaves, V.borrow, freeze1, borrows, borrow1, V.leaves, V.nextg, Nat.reduceAdd, Nat.reduceSub, layTup, obj1, splice, Bool.false_eq_true, if_true, if_false, Bool.not_true, Bool.not_false]))
      (apply Vq.runDraw_cons; exact rfl; exact rfl; exact rfl; (try simp only [z1, z2, z3, z4, z5, z6, z7, z8, z9, z10, z11, z12, z13, z14, z15, z16, z17, z18, V.withLeaves, V.borrow, freeze1, borrows, borrow1, V.leaves, V.nextg, Nat.reduceAdd, Nat.reduceSub, layTup, obj1, splice, Bool.false_eq_true, if_true, if_false, Bool.not_true, Bool.not_false]))
      (apply Vq.runDraw_cons; exact rfl; exact rfl; exact rfl; (try simp only [z1, z2, z3, z4, z5, z6, z7, z8, z9, z10, z11, z12, z13, z14, z15, z16, z17, z18, V.withLeaves, V.borrow, freeze1, borrows, borrow1, V.leaves, V.nextg, Nat.reduceAdd, Nat.reduceSub, layTup, obj1, splice, Bool.false_eq_true, if_true, if_false, Bool.not_true, Bool.not_false]))
      (apply Vq.runDraw_cons; exact rfl; exact rfl; exact rfl; (try simp only [z1, z2, z3, z4, z5, z6, z7, z8, z9, z10, z11, z12, z13, z14, z15, z16, z17, z18, V.withLeaves, V.borrow, freeze1, borrows, borrow1, V.leaves, V.nextg, Nat.reduceAdd, Nat.reduceSub, layTup, obj1, splice, Bool.false_eq_true, if_true, if_false, Bool.not_true, Bool.not_false]))
      (apply Vq.runDraw_cons; exact rfl; exact rfl; exact rfl; (try simp only [z1, z2, z3, z4, z5, z6, z7, z8, z9, z10, z11, z12, z13, z14, z15, z16, z17, z18, V.withLeaves, V.borrow, freeze1, borrows, borrow1, V.leaves, V.nextg, Nat.reduceAdd, Nat.reduceSub, layTup, obj1, splice, Bool.false_eq_true, if_true, if_false, Bool.not_true, Bool.not_false]))
      (apply Vq.runDraw_cons; exact rfl; exact rfl; exact rfl; (try simp only [z1, z2, z3, z4, z5, z6, z7, z8, z9, z10, z11, z12, z13, z14, z15, z16, z17, z18, V.withLeaves, V.borrow, freeze1, borrows, borrow1, V.leaves, V.nextg, Nat.reduceAdd, Nat.reduceSub, layTup, obj1, splice, Bool.false_eq_true, if_true, if_false, Bool.not_true, Bool.not_false, hwl]))
      (apply Vq.runDraw_cons; exact rfl; exact rfl; exact rfl; (try simp only [z1, z2, z3, z4, z5, z6, z7, z8, z9, z10, z11, z12, z13, z14, z15, z16, z17, z18, V.withLeaves, V.borrow, freeze1, borrows, borrow1, V.leaves, V.nextg, Nat.reduceAdd, Nat.reduceSub, layTup, obj1, splice, Bool.false_eq_true, if_true, if_false, Bool.not_true, Bool.not_false, hwl]))
      apply runDraw_cons
      · apply vcallA_foot (rs := [.slot 12, .slot 17]) rfl (fun _ => rfl) rfl hcall (by simp [V.apart, V.leaves, V.noslice]; exact hns)
        exact rfl
      · exact rfl
      · apply vcallA rfl (fun _ => rfl) rfl hcall (by simp [V.apart, V.leaves, V.noslice]; exact hns)
        exact rfl
      (try simp only [z1, z2, z3, z4, z5, z6, z7, z8, z9, z10, z11, z12, z13, z14, z15, z16, z17, z18, V.withLeaves, V.borrow, freeze1, borrows, borrow1, V.leaves, V.nextg, Nat.reduceAdd, Nat.reduceSub, layTup, obj1, splice, Bool.false_eq_true, if_true, if_false, Bool.not_true, Bool.not_false])
      (apply Vq.runDraw_cons; exact rfl; exact rfl; exact rfl; (try simp only [z1, z2, z3, z4, z5, z6, z7, z8, z9, z10, z11, z12, z13, z14, z15, z16, z17, z18, V.withLeaves, V.borrow, freeze1, borrows, borrow1, V.leaves, V.nextg, Nat.reduceAdd, Nat.reduceSub, layTup, obj1, splice, Bool.false_eq_true, if_true, if_false, Bool.not_true, Bool.not_false]))
      (apply Vq.runDraw_cons; exact rfl; exact rfl; exact rfl; (try simp only [z1, z2, z3, z4, z5, z6, z7, z8, z9, z10, z11, z12, z13, z14, z15, z16, z17, z18, V.withLeaves, V.borrow, freeze1, borrows, borrow1, V.leaves, V.nextg, Nat.reduceAdd, Nat.reduceSub, layTup, obj1, splice, Bool.false_eq_true, if_true, if_false, Bool.not_true, Bool.not_false]))
      apply runDraw_cons
      · apply vapp_foot (.isl 0 rfl) rfl (by simp [dgs, byN_len]; omega)
        exact rfl
      · exact rfl
      · apply vapp (.isl 0 rfl) rfl (by simp [dgs, byN_len]; omega)
        rw [hfr]
        exact rfl
      (try simp only [z1, z2, z3, z4, z5, z6, z7, z8, z9, z10, z11, z12, z13, z14, z15, z16, z17, z18, V.withLeaves, V.borrow, freeze1, borrows, borrow1, V.leaves, V.nextg, Nat.reduceAdd, Nat.reduceSub, layTup, obj1, splice, Bool.false_eq_true, if_true, if_false, Bool.not_true, Bool.not_false])
      (apply Vq.runDraw_cons; exact rfl; exact rfl; exact rfl; (try simp only [z1, z2, z3, z4, z5, z6, z7, z8, z9, z10, z11, z12, z13, z14, z15, z16, z17, z18, V.withLeaves, V.borrow, freeze1, borrows, borrow1, V.leaves, V.nextg, Nat.reduceAdd, Nat.reduceSub, layTup, obj1, splice, Bool.false_eq_true, if_true, if_false, Bool.not_true, Bool.not_false]))
      exact runDraw_nil
    dsimp only [afterSeq]
    (with_reducible apply Vq.vseq)
    · (with_reducible apply Vq.vregion); case hr => exact rfl
      repeat' (((first
      | (with_reducible exact Vq.runOps_nil)
      | ((with_reducible apply Vq.runOps_cons); (first | exact rfl))
      | ((with_reducible first | apply Vq.vret | apply Vq.vskip | apply Vq.vexit | apply Vq.vab0 | apply Vq.vab1 | apply Vq.vabr); exact rfl)
      | ((with_reducible apply Vq.vregion); case hr => exact rfl)
      | (with_reducible first | apply Vq.vseq | apply Vq.vblock)
      | ((with_reducible apply Vq.vcond); exact rfl; dsimp only [Vq.pickC])
      | ((with_reducible apply Vq.vabx); (· decide); exact rfl) | dsimp only [Vq.afterSeq]); (try simp only [z1, z2, z3, z4, z5, z6, z7, z8, z9, z10, z11, z12, z13, z14, z15, z16, z17, z18, V.withLeaves, V.borrow, freeze1, borrows, borrow1, V.leaves, V.nextg, Nat.reduceAdd, Nat.reduceSub, layTup, obj1, splice, Bool.false_eq_true, if_true, if_false, Bool.not_true, Bool.not_false])))
      (with_reducible apply Vq.runOps_cons)
      · apply vbs1 (y := 4) rfl rfl
        exact rfl
      (try simp only [z1, z2, z3, z4, z5, z6, z7, z8, z9, z10, z11, z12, z13, z14, z15, z16, z17, z18, V.withLeaves, V.borrow, freeze1, borrows, borrow1, V.leaves, V.nextg, Nat.reduceAdd, Nat.reduceSub, layTup, obj1, splice, Bool.false_eq_true, if_true, if_false, Bool.not_true, Bool.not_false])
      repeat' (((first
      | (with_reducible exact Vq.runOps_nil)
      | ((with_reducible apply Vq.runOps_cons); (first | exact rfl | (apply Vq.vcallA; exact rfl; exact fun _ => rfl; exact rfl; (first | exact hsum); (first | exact rfl | (simp [Vq.V.apart, Vq.V.leaves, Vq.V.noslice]; done) | (simp [Vq.V.apart, Vq.V.leaves, Vq.V.noslice]; assumption)); exact rfl)))
      | ((with_reducible first | apply Vq.vret | apply Vq.vskip | apply Vq.vexit | apply Vq.vab0 | apply Vq.vab1 | apply Vq.vabr); exact rfl)
      | ((with_reducible apply Vq.vregion); case hr => exact rfl)
      | (with_reducible first | apply Vq.vseq | apply Vq.vblock)
      | ((with_reducible apply Vq.vcond); exact rfl; dsimp only [Vq.pickC])
      | ((with_reducible apply Vq.vabx); (· decide); exact rfl) | dsimp only [Vq.afterSeq]); (try simp only [z1, z2, z3, z4, z5, z6, z7, z8, z9, z10, z11, z12, z13, z14, z15, z16, z17, z18, V.withLeaves, V.borrow, freeze1, borrows, borrow1, V.leaves, V.nextg, Nat.reduceAdd, Nat.reduceSub, layTup, obj1, splice, Bool.false_eq_true, if_true, if_false, Bool.not_true, Bool.not_false])))
    dsimp only [afterSeq]
    (with_reducible apply Vq.vseq)
    · (with_reducible apply Vq.vregion); case hr => exact rfl
      repeat' (((first
      | (with_reducible exact Vq.runOps_nil)
      | ((with_reducible apply Vq.runOps_cons); (first | exact rfl))
      | ((with_reducible first | apply Vq.vret | apply Vq.vskip | apply Vq.vexit | apply Vq.vab0 | apply Vq.vab1 | apply Vq.vabr); exact rfl)
      | ((with_reducible apply Vq.vregion); case hr => exact rfl)
      | (with_reducible first | apply Vq.vseq | apply Vq.vblock)
      | ((with_reducible apply Vq.vcond); exact rfl; dsimp only [Vq.pickC])
      | ((with_reducible apply Vq.vabx); (· decide); exact rfl) | dsimp only [Vq.afterSeq]); (try simp only [z1, z2, z3, z4, z5, z6, z7, z8, z9, z10, z11, z12, z13, z14, z15, z16, z17, z18, V.withLeaves, V.borrow, freeze1, borrows, borrow1, V.leaves, V.nextg, Nat.reduceAdd, Nat.reduceSub, layTup, obj1, splice, Bool.false_eq_true, if_true, if_false, Bool.not_true, Bool.not_false, w1, w2, w3, w4])))
      (with_reducible apply Vq.runOps_cons)
      · apply vappF (y := 4) (.xsl 0 rfl) rfl rfl (by simp [byN_len]; omega)
        exact rfl
      (try simp only [z1, z2, z3, z4, z5, z6, z7, z8, z9, z10, z11, z12, z13, z14, z15, z16, z17, z18, V.withLeaves, V.borrow, freeze1, borrows, borrow1, V.leaves, V.nextg, Nat.reduceAdd, Nat.reduceSub, layTup, obj1, splice, Bool.false_eq_true, if_true, if_false, Bool.not_true, Bool.not_false])
      repeat' (((first
      | (with_reducible exact Vq.runOps_nil)
      | ((with_reducible apply Vq.runOps_cons); (first | exact rfl))
      | ((with_reducible first | apply Vq.vret | apply Vq.vskip | apply Vq.vexit | apply Vq.vab0 | apply Vq.vab1 | apply Vq.vabr); exact rfl)
      | ((with_reducible apply Vq.vregion); case hr => exact rfl)
      | (with_reducible first | apply Vq.vseq | apply Vq.vblock)
      | ((with_reducible apply Vq.vcond); exact rfl; dsimp only [Vq.pickC])
      | ((with_reducible apply Vq.vabx); (· decide); exact rfl) | dsimp only [Vq.afterSeq]); (try simp only [z1, z2, z3, z4, z5, z6, z7, z8, z9, z10, z11, z12, z13, z14, z15, z16, z17, z18, V.withLeaves, V.borrow, freeze1, borrows, borrow1, V.leaves, V.nextg, Nat.reduceAdd, Nat.reduceSub, layTup, obj1, splice, Bool.false_eq_true, if_true, if_false, Bool.not_true, Bool.not_false])))
    dsimp only [afterSeq]
    repeat' (((first
      | (with_reducible exact Vq.runOps_nil)
      | ((with_reducible apply Vq.runOps_cons); (first | exact rfl))
      | ((with_reducible first | apply Vq.vret | apply Vq.vskip | apply Vq.vexit | apply Vq.vab0 | apply Vq.vab1 | apply Vq.vabr); exact rfl)
      | ((with_reducible apply Vq.vregion); case hr => exact rfl)
      | (with_reducible first | apply Vq.vseq | apply Vq.vblock)
      | ((with_reducible apply Vq.vcond); exact rfl; dsimp only [Vq.pickC])
      | ((with_reducible apply Vq.vabx); (· decide); exact rfl) | dsimp only [Vq.afterSeq]); (try simp only [z1, z2, z3, z4, z5, z6, z7, z8, z9, z10, z11, z12, z13, z14, z15, z16, z17, z18, V.withLeaves, V.borrow, freeze1, borrows, borrow1, V.leaves, V.nextg, Nat.reduceAdd, Nat.reduceSub, layTup, obj1, splice, Bool.false_eq_true, if_true, if_false, Bool.not_true, Bool.not_false])))
  · exact .inr rfl
  · unfold full four
    rw [byN_app]
    exact rfl
/-! ### packhorseref06.Frame -/
abbrev H36 (G : VProg) : Prop := ∀ (n : Int) (m : Nat), 0 ≤ n → n < 18446744073709551616 → 12 ≤ m → call G m 36 [.int .u64 n] [] = some (.xsl 0 1 (dg n), [])
abbrev H51 (G : VProg) : Prop := ∀ (l : List Nat) (m : Nat), l.length < 2 ^ 40 → (∀ x ∈ l, x < 256) → l.length + 12 ≤ m → call G m 51 [.isl 0 1 (byN l)] [] = some (.int .u32 (crc l : Nat), [])
abbrev H50 (G : VProg) : Prop := ∀ (c m : Nat), c < 2 ^ 32 → 1 ≤ m → call G m 50 [.int .u32 c] [] = some (.xsl 0 1 (byN (four c)), [])
theorem frame33 (G : VProg) (hG : G 33 = some (.code v33)) (h36 : H36 G) (h51 : H51 G) (h50 : H50 G) (k : Nat) (bl : List Nat) (hk : k < 256) (hb : ∀ x ∈ bl, x < 256) (hl : bl.length ≤ 65536) (m : Nat) (hm : bl.length + 40 ≤ m) :
    call G m 33 [.agg [.int .u8 k, .isl 0 1 (byN bl)]] [] = some (.tup [.xsl 0 1 (byN (full k bl)), .int .i64 0], []) := by
  obtain ⟨m, rfl⟩ : ∃ k, m = k + 1 := ⟨m - 1, by omega⟩
  have hgt : decide (((byN bl).length : Int) > 65536) = false := by rw [byN_len]; simp; omega
  have hwl : IntKind.u64.wrap ((byN bl).length : Int) = ((byN bl).length : Int) := wrap_u64 _ (by rw [byN_len]; omega)
  have hns := noslice_dg ((byN bl).length : Int)
  have hnb := byN_noslice bl
  have hcall := h36 ((byN bl).length : Int) m (by omega) (by rw [byN_len]; omega) (by omega)
  have hdl := dg_len (bl.length : Int)
  have hel := enc_len 9 bl.length
  have he : dg ((byN bl).length : Int) = byN (enc 9 bl.length) := by rw [byN_len]; exact dg_enc _ (by omega)
  have hnf := byN_noslice (four (crc (frm k bl)))
  have hfr : [V.int .u8 167, V.int .u8 1, V.int .u8 k] ++ dg ((byN bl).length : Int) = byN (167 :: 1 :: k :: enc 9 bl.length) := by
    rw [he]
    rfl
  have hfr2 : byN (167 :: 1 :: k :: enc 9 bl.length) ++ byN bl = byN (frm k bl) := by rw [← byN_app]; rfl
  have hfl := frm_len k bl
  have hsum := h51 (frm k bl) m (by omega) (frm_lt k bl hk hb) (by omega)
  have hc := crc_lt (frm k bl)
  have hfour := h50 (crc (frm k bl)) m hc (by omega)
  apply call_code (o := .ret) hG ⟨rfl, by decide⟩
  · change step (call G m) (itersOf G) (exec G m) 0 b33 _ = _
    (try simp only [Vq.start, List.length_cons, List.length_nil, List.map_cons, List.map_nil, List.cons_append, List.nil_append, List.replicate_succ, List.replicate_zero, Nat.reduceAdd, Nat.reduceSub, v33])
    unfold b33
    (with_reducible apply Vq.vseq)
    · repeat' (((first
      | (with_reducible exact Vq.runOps_nil)
      | ((with_reducible apply Vq.runOps_cons); (first | exact rfl))
      | ((with_reducible first | apply Vq.vret | apply Vq.vskip | apply Vq.vexit | apply Vq.vab0 | apply Vq.vab1 | apply Vq.vabr); exact rfl)
      | ((with_reducible apply Vq.vregion); case hr => exact rfl)
      | (with_reducible first | apply Vq.vseq | apply Vq.vblock)
      | ((with_reducible apply Vq.vcond); exact rfl; dsimp only [Vq.pickC])
      | ((with_reducible apply Vq.vabx); (· decide); exact rfl) | dsimp only [Vq.afterSeq]); (try simp only [z1, z2, z3, z4, z5, z6, z7, z8, z9, z10, z11, z12, z13, z14, z15, z16, z17, z18, V.withLeaves, V.borrow, freeze1, borrows, borrow1, V.leaves, V.nextg, Nat.reduceAdd, Nat.reduceSub, layTup, obj1, splice, Bool.false_eq_true, if_true, if_false, Bool.not_true, Bool.not_false])))
    dsimp only [afterSeq]
    (with_reducible apply Vq.vseq)
    · repeat' (((first
      | (with_reducible exact Vq.runOps_nil)
      | ((with_reducible apply Vq.runOps_cons); (first | exact rfl))
      | ((with_reducible first | apply Vq.vret | apply Vq.vskip | apply Vq.vexit | apply Vq.vab0 | apply Vq.vab1 | apply Vq.vabr); exact rfl)
      | ((with_reducible apply Vq.vregion); case hr => exact rfl)
      | (with_reducible first | apply Vq.vseq | apply Vq.vblock)
      | ((with_reducible apply Vq.vcond); exact rfl; dsimp only [Vq.pickC])
      | ((with_reducible apply Vq.vabx); (· decide); exact rfl) | dsimp only [Vq.afterSeq]); (try simp only [z1, z2, z3, z4, z5, z6, z7, z8, z9, z10, z11, z12, z13, z14, z15, z16, z17, z18, V.withLeaves, V.borrow, freeze1, borrows, borrow1, V.leaves, V.nextg, Nat.reduceAdd, Nat.reduceSub, layTup, obj1, splice, Bool.false_eq_true, if_true, if_false, Bool.not_true, Bool.not_false, hgt])))
    dsimp only [afterSeq]
    (with_reducible apply Vq.vseq)
    · (with_reducible apply vdraw)
      case hr => exact rfl
      (apply Vq.runDraw_cons; exact rfl; exact rfl; exact rfl; (try simp only [z1, z2, z3, z4, z5, z6, z7, z8, z9, z10, z11, z12, z13, z14, z15, z16, z17, z18, V.withLeaves, V.borrow, freeze1, borrows, borrow1, V.leaves, V.nextg, Nat.reduceAdd, Nat.reduceSub, layTup, obj1, splice, Bool.false_eq_true, if_true, if_false, Bool.not_true, Bool.not_false]))
      (apply Vq.runDraw_cons; exact rfl; exact rfl; exact rfl; (try simp only [z1, z2, z3, z4, z5, z6, z7, z8, z9, z10, z11, z12, z13, z14, z15, z16, z17, z18, V.withLeaves, V.borrow, freeze1, borrows, borrow1, V.leaves, V.nextg, Nat.reduceAdd, Nat.reduceSub, layTup, obj1, splice, Bool.false_eq_true, if_true, if_false, Bool.not_true, Bool.not_false]))
      (apply Vq.runDraw_cons; exact rfl; exact rfl; exact rfl; (try simp only [z1, z2, z3, z4, z5, z6, z7, z8, z9, z10, z11, z12, z13, z14, z15, z16, z17, z18, V.withLeaves, V.borrow, freeze1, borrows, borrow1, V.leaves, V.nextg, Nat.reduceAdd, Nat.reduceSub, layTup, obj1, splice, Bool.false_eq_true, if_true, if_false, Bool.not_true, Bool.not_false]))
      (apply Vq.runDraw_cons; exact rfl; exact rfl; exact rfl; (try simp only [z1, z2, z3, z4, z5, z6, z7, z8, z9, z10, z11, z12, z13, z14, z15, z16, z17, z18, V.withLeaves, V.borrow, freeze1, borrows, borrow1, V.leaves, V.nextg, Nat.reduceAdd, Nat.reduceSub, layTup, obj1, splice, Bool.false_eq_true, if_true, if_false, Bool.not_true, Bool.not_false]))
      (apply Vq.runDraw_cons; exact rfl; exact rfl; exact rfl; (try simp only [z1, z2, z3, z4, z5, z6, z7, z8, z9, z10, z11, z12, z13, z14, z15, z16, z17, z18, V.withLeaves, V.borrow, freeze1, borrows, borrow1, V.leaves, V.nextg, Nat.reduceAdd, Nat.reduceSub, layTup, obj1, splice, Bool.false_eq_true, if_true, if_false, Bool.not_true, Bool.not_false]))
      (apply Vq.runDraw_cons; exact rfl; exact rfl; exact rfl; (try simp only [z1, z2, z3, z4, z5, z6, z7, z8, z9, z10, z11, z12, z13, z14, z15, z16, z17, z18, V.withLeaves, V.borrow, freeze1, borrows, borrow1, V.leaves, V.nextg, Nat.reduceAdd, Nat.reduceSub, layTup, obj1, splice, Bool.false_eq_true, if_true, if_false, Bool.not_true, Bool.not_false]))
      (apply Vq.runDraw_cons; exact rfl; exact rfl; exact rfl; (try simp only [z1, z2, z3, z4, z5, z6, z7, z8, z9, z10, z11, z12, z13, z14, z15, z16, z17, z18, V.withLeaves, V.borrow, freeze1, borrows, borrow1, V.leaves, V.nextg, Nat.reduceAdd, Nat.reduceSub, layTup, obj1, splice, Bool.false_eq_true, if_true, if_false, Bool.not_true, Bool.not_false, hwl]))
      apply runDraw_cons
      · apply vcallA_foot (rs := [.slot 15]) rfl (fun _ => rfl) rfl hcall (by simp [V.apart, V.leaves, V.noslice]; exact hns)
        exact rfl
      · exact rfl
      · apply vcallA rfl (fun _ => rfl) rfl hcall (by simp [V.apart, V.leaves, V.noslice]; exact hns)
        exact rfl
      (try simp only [z1, z2, z3, z4, z5, z6, z7, z8, z9, z10, z11, z12, z13, z14, z15, z16, z17, z18, V.withLeaves, V.borrow, freeze1, borrows, borrow1, V.leaves, V.nextg, Nat.reduceAdd, Nat.reduceSub, layTup, obj1, splice, Bool.false_eq_true, if_true, if_false, Bool.not_true, Bool.not_false])
      apply runDraw_cons
      · apply vapp_foot (.xsl 0 rfl) rfl (by simp [byN_len]; omega)
        exact rfl
      · exact rfl
      · apply vapp (.xsl 0 rfl) rfl (by simp [byN_len]; omega)
        rw [hfr]
        exact rfl
      (try simp only [z1, z2, z3, z4, z5, z6, z7, z8, z9, z10, z11, z12, z13, z14, z15, z16, z17, z18, V.withLeaves, V.borrow, freeze1, borrows, borrow1, V.leaves, V.nextg, Nat.reduceAdd, Nat.reduceSub, layTup, obj1, splice, Bool.false_eq_true, if_true, if_false, Bool.not_true, Bool.not_false])
      (apply Vq.runDraw_cons; exact rfl; exact rfl; exact rfl; (try simp only [z1, z2, z3, z4, z5, z6, z7, z8, z9, z10, z11, z12, z13, z14, z15, z16, z17, z18, V.withLeaves, V.borrow, freeze1, borrows, borrow1, V.leaves, V.nextg, Nat.reduceAdd, Nat.reduceSub, layTup, obj1, splice, Bool.false_eq_true, if_true, if_false, Bool.not_true, Bool.not_false]))
      exact runDraw_nil
    dsimp only [afterSeq]
    (with_reducible apply Vq.vseq)
    · (with_reducible apply Vq.vregion); case hr => exact rfl
      repeat' (((first
      | (with_reducible exact Vq.runOps_nil)
      | ((with_reducible apply Vq.runOps_cons); (first | exact rfl))
      | ((with_reducible first | apply Vq.vret | apply Vq.vskip | apply Vq.vexit | apply Vq.vab0 | apply Vq.vab1 | apply Vq.vabr); exact rfl)
      | ((with_reducible apply Vq.vregion); case hr => exact rfl)
      | (with_reducible first | apply Vq.vseq | apply Vq.vblock)
      | ((with_reducible apply Vq.vcond); exact rfl; dsimp only [Vq.pickC])
      | ((with_reducible apply Vq.vabx); (· decide); exact rfl) | dsimp only [Vq.afterSeq]); (try simp only [z1, z2, z3, z4, z5, z6, z7, z8, z9, z10, z11, z12, z13, z14, z15, z16, z17, z18, V.withLeaves, V.borrow, freeze1, borrows, borrow1, V.leaves, V.nextg, Nat.reduceAdd, Nat.reduceSub, layTup, obj1, splice, Bool.false_eq_true, if_true, if_false, Bool.not_true, Bool.not_false])))
      (with_reducible apply Vq.runOps_cons)
      · apply vappL (y := 4) (.isl 0 rfl) rfl rfl (by simp [byN_len]; omega)
        rw [hfr2]
        exact rfl
      (try simp only [z1, z2, z3, z4, z5, z6, z7, z8, z9, z10, z11, z12, z13, z14, z15, z16, z17, z18, V.withLeaves, V.borrow, freeze1, borrows, borrow1, V.leaves, V.nextg, Nat.reduceAdd, Nat.reduceSub, layTup, obj1, splice, Bool.false_eq_true, if_true, if_false, Bool.not_true, Bool.not_false])
      repeat' (((first
      | (with_reducible exact Vq.runOps_nil)
      | ((with_reducible apply Vq.runOps_cons); (first | exact rfl))
      | ((with_reducible first | apply Vq.vret | apply Vq.vskip | apply Vq.vexit | apply Vq.vab0 | apply Vq.vab1 | apply Vq.vabr); exact rfl)
      | ((with_reducible apply Vq.vregion); case hr => exact rfl)
      | (with_reducible first | apply Vq.vseq | apply Vq.vblock)
      | ((with_reducible apply Vq.vcond); exact rfl; dsimp only [Vq.pickC])
      | ((with_reducible apply Vq.vabx); (· decide); exact rfl) | dsimp only [Vq.afterSeq]); (try simp only [z1, z2, z3, z4, z5, z6, z7, z8, z9, z10, z11, z12, z13, z14, z15, z16, z17, z18, V.withLeaves, V.borrow, freeze1, borrows, borrow1, V.leaves, V.nextg, Nat.reduceAdd, Nat.reduceSub, layTup, obj1, splice, Bool.false_eq_true, if_true, if_false, Bool.not_true, Bool.not_false])))
    dsimp only [afterSeq]
    (with_reducible apply Vq.vseq)
    · (with_reducible apply Vq.vregion); case hr => exact rfl
      repeat' (((first
      | (with_reducible exact Vq.runOps_nil)
      | ((with_reducible apply Vq.runOps_cons); (first | exact rfl))
      | ((with_reducible first | apply Vq.vret | apply Vq.vskip | apply Vq.vexit | apply Vq.vab0 | apply Vq.vab1 | apply Vq.vabr); exact rfl)
      | ((with_reducible apply Vq.vregion); case hr => exact rfl)
      | (with_reducible first | apply Vq.vseq | apply Vq.vblock)
      | ((with_reducible apply Vq.vcond); exact rfl; dsimp only [Vq.pickC])
      | ((with_reducible apply Vq.vabx); (· decide); exact rfl) | dsimp only [Vq.afterSeq]); (try simp only [z1, z2, z3, z4, z5, z6, z7, z8, z9, z10, z11, z12, z13, z14, z15, z16, z17, z18, V.withLeaves, V.borrow, freeze1, borrows, borrow1, V.leaves, V.nextg, Nat.reduceAdd, Nat.reduceSub, layTup, obj1, splice, Bool.false_eq_true, if_true, if_false, Bool.not_true, Bool.not_false])))
      (with_reducible apply Vq.runOps_cons)
      · apply vcallA (vs := [.isl 0 1 (byN (frm k bl))]) rfl (by intro k; simp [presArgs, presArg, gOpd, Prog.run, St.slot, V.leaves, press, pres1, gElems, gHome, St.obj, V.withLeaves]) rfl hsum rfl
        exact rfl
      (try simp only [z1, z2, z3, z4, z5, z6, z7, z8, z9, z10, z11, z12, z13, z14, z15, z16, z17, z18, V.withLeaves, V.borrow, freeze1, borrows, borrow1, V.leaves, V.nextg, Nat.reduceAdd, Nat.reduceSub, layTup, obj1, splice, Bool.false_eq_true, if_true, if_false, Bool.not_true, Bool.not_false])
      repeat' (((first
      | (with_reducible exact Vq.runOps_nil)
      | ((with_reducible apply Vq.runOps_cons); (first | exact rfl | (apply Vq.vcallA; exact rfl; exact fun _ => rfl; exact rfl; (first | exact hfour); (first | exact rfl | (simp [Vq.V.apart, Vq.V.leaves, Vq.V.noslice]; done) | (simp [Vq.V.apart, Vq.V.leaves, Vq.V.noslice]; assumption)); exact rfl)))
      | ((with_reducible first | apply Vq.vret | apply Vq.vskip | apply Vq.vexit | apply Vq.vab0 | apply Vq.vab1 | apply Vq.vabr); exact rfl)
      | ((with_reducible apply Vq.vregion); case hr => exact rfl)
      | (with_reducible first | apply Vq.vseq | apply Vq.vblock)
      | ((with_reducible apply Vq.vcond); exact rfl; dsimp only [Vq.pickC])
      | ((with_reducible apply Vq.vabx); (· decide); exact rfl) | dsimp only [Vq.afterSeq]); (try simp only [z1, z2, z3, z4, z5, z6, z7, z8, z9, z10, z11, z12, z13, z14, z15, z16, z17, z18, V.withLeaves, V.borrow, freeze1, borrows, borrow1, V.leaves, V.nextg, Nat.reduceAdd, Nat.reduceSub, layTup, obj1, splice, Bool.false_eq_true, if_true, if_false, Bool.not_true, Bool.not_false])))
      (with_reducible apply Vq.runOps_cons)
      · apply vappL (y := 4) (es := byN (frm k bl)) (xs := byN (four (crc (frm k bl)))) (.xsl 0 rfl) rfl rfl (by simp [byN_len, four]; omega)
        exact rfl
      (try simp only [z1, z2, z3, z4, z5, z6, z7, z8, z9, z10, z11, z12, z13, z14, z15, z16, z17, z18, V.withLeaves, V.borrow, freeze1, borrows, borrow1, V.leaves, V.nextg, Nat.reduceAdd, Nat.reduceSub, layTup, obj1, splice, Bool.false_eq_true, if_true, if_false, Bool.not_true, Bool.not_false])
      repeat' (((first
      | (with_reducible exact Vq.runOps_nil)
      | ((with_reducible apply Vq.runOps_cons); (first | exact rfl))
      | ((with_reducible first | apply Vq.vret | apply Vq.vskip | apply Vq.vexit | apply Vq.vab0 | apply Vq.vab1 | apply Vq.vabr); exact rfl)
      | ((with_reducible apply Vq.vregion); case hr => exact rfl)
      | (with_reducible first | apply Vq.vseq | apply Vq.vblock)
      | ((with_reducible apply Vq.vcond); exact rfl; dsimp only [Vq.pickC])
      | ((with_reducible apply Vq.vabx); (· decide); exact rfl) | dsimp only [Vq.afterSeq]); (try simp only [z1, z2, z3, z4, z5, z6, z7, z8, z9, z10, z11, z12, z13, z14, z15, z16, z17, z18, V.withLeaves, V.borrow, freeze1, borrows, borrow1, V.leaves, V.nextg, Nat.reduceAdd, Nat.reduceSub, layTup, obj1, splice, Bool.false_eq_true, if_true, if_false, Bool.not_true, Bool.not_false])))
    dsimp only [afterSeq]
    repeat' (((first
      | (with_reducible exact Vq.runOps_nil)
      | ((with_reducible apply Vq.runOps_cons); (first | exact rfl))
      | ((with_reducible first | apply Vq.vret | apply Vq.vskip | apply Vq.vexit | apply Vq.vab0 | apply Vq.vab1 | apply Vq.vabr); exact rfl)
      | ((with_reducible apply Vq.vregion); case hr => exact rfl)
      | (with_reducible first | apply Vq.vseq | apply Vq.vblock)
      | ((with_reducible apply Vq.vcond); exact rfl; dsimp only [Vq.pickC])
      | ((with_reducible apply Vq.vabx); (· decide); exact rfl) | dsimp only [Vq.afterSeq]); (try simp only [z1, z2, z3, z4, z5, z6, z7, z8, z9, z10, z11, z12, z13, z14, z15, z16, z17, z18, V.withLeaves, V.borrow, freeze1, borrows, borrow1, V.leaves, V.nextg, Nat.reduceAdd, Nat.reduceSub, layTup, obj1, splice, Bool.false_eq_true, if_true, if_false, Bool.not_true, Bool.not_false])))
  · exact .inr rfl
  · unfold full
    rw [byN_app]
    exact rfl
end S10
end Go.Vq

