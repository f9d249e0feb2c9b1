/- The V-level machine, run on values that are not known (no law of Go is stated here). -/
import Derived.Test.YtigbpkocmklbpaaC2
set_option linter.unusedVariables false
set_option linter.unusedSimpArgs false
set_option linter.unusedSectionVars false
namespace Go.Vq
namespace S11
open Go S2 S3 S4 S5 S6 S7 S8 S9 S10
set_option maxRecDepth 1000000
/-- packhorse/packet.Open -/
def b34 : VCode :=
  .seq
    (.region [{ dst := (some 2), op := .alloc 0 [(.int .u8 0), (.xsl 0 1 [])], guard := none, before := 0 },
      { dst := (some 3), op := .assign (.val (.int .i64 0)), guard := none, before := 0 },
      { dst := (some 4), op := .assign (.val (.int .i64 0)), guard := none, before := 2 }] false)
    (.seq
      (.seq
        (.region [{ dst := (some 12), op := .build [(.int .u8 0), (.int .u8 0)] [(0, 1, (.val (.int .u8 167))), (1, 1, (.val (.int .u8 1)))], guard := none, before := 0 },
          { dst := (some 13), op := .move (.val (.int .i64 0)), guard := none, before := 0 }] false)
        (.block 0 (some [0, 2]) (.loop (some [0, 2, 12, 13])
            (.seq
              (.region [{ dst := (some 14), op := .bin (.lss) (.tmp 13) (.val (.int .i64 2)), guard := none, before := 0 }] false)
              (.seq
                (.cond (.tmp 14)
                  (.skip)
                  (.exit 0))
                (.seq
                  (.block 1 none (.seq
                      (.region [{ dst := (some 15), op := .move (.tmp 13), guard := none, before := 0 },
                        { dst := (some 16), op := .indexArr 2 1 false (.tmp 12) (.tmp 13), guard := none, before := 0 },
                        { dst := (some 5), op := .assign (.tmp 15), guard := none, before := 3 },
                        { dst := (some 6), op := .assign (.tmp 16), guard := none, before := 7 }] false)
                      (.seq
                        (.region [{ dst := (some 17), op := .move (.tmp 5), guard := none, before := 0 },
                          { dst := (some 18), op := .move (.tmp 0), guard := none, before := 0 },
                          { dst := (some 19), op := .len (.slc 1) (.tmp 18), guard := none, before := 2 },
                          { dst := (some 20), op := .bin (.lss) (.tmp 17) (.tmp 19), guard := none, before := 7 },
                          { dst := (some 21), op := .move (.tmp 20), guard := none, before := 15 },
                          { dst := (some 22), op := .move (.tmp 0), guard := (some (21, true)), before := 31 },
                          { dst := (some 23), op := .move (.tmp 5), guard := (some (21, true)), before := 31 },
                          { dst := (some 24), op := .indexAddr none 1 (.tmp 22) (.tmp 23), guard := (some (21, true)), before := 127 },
                          { dst := (some 25), op := .load false 1 (.tmp 24), guard := (some (21, true)), before := 255 },
                          { dst := (some 26), op := .move (.tmp 6), guard := (some (21, true)), before := 31 },
                          { dst := (some 27), op := .eq true (.num) (.tmp 25) (.tmp 26), guard := (some (21, true)), before := 1023 },
                          { dst := (some 28), op := .pick (.tmp 21) (.tmp 27) (.val (.bool false)), guard := none, before := 2047 }] false)
                        (.cond (.tmp 28)
                          (.seq
                            (.region [{ dst := (some 29), op := .build [(.int .u8 0), (.nilS 1)] [], guard := none, before := 0 },
                              { dst := none, op := .store 2 (.tmp 2) (.tmp 29), guard := none, before := 1 },
                              { dst := (some 3), op := .assign (.val (.int .i64 0)), guard := none, before := 3 },
                              { dst := (some 4), op := .assign (.val (.int .i64 62)), guard := none, before := 7 }] false)
                            (.ret))
                          (.skip)))))
                  (.region [{ dst := (some 30), op := .bin (.add) (.tmp 13) (.val (.int .i64 1)), guard := none, before := 0 },
                    { dst := (some 13), op := .move (.tmp 30), guard := none, before := 1 }] false)))))))
      (.seq
        (.seq
          (.region [{ dst := (some 31), op := .move (.tmp 0), guard := none, before := 0 },
            { dst := (some 32), op := .len (.slc 1) (.tmp 31), guard := none, before := 1 },
            { dst := (some 33), op := .bin (.lss) (.tmp 32) (.val (.int .i64 3)), guard := none, before := 3 }] false)
          (.cond (.tmp 33)
            (.seq
              (.region [{ dst := (some 34), op := .build [(.int .u8 0), (.nilS 1)] [], guard := none, before := 0 },
                { dst := none, op := .store 2 (.tmp 2) (.tmp 34), guard := none, before := 1 },
                { dst := (some 3), op := .assign (.val (.int .i64 0)), guard := none, before := 3 },
                { dst := (some 4), op := .assign (.val (.int .i64 61)), guard := none, before := 7 }] false)
              (.ret))
            (.skip)))
        (.seq
          (.region [{ dst := (some 36), op := .move (.tmp 0), guard := none, before := 0 },
            { dst := (some 37), op := .slice (.slc 1) (.tmp 36) (some (.val (.int .i64 3))) none none, guard := none, before := 1 },
            { dst := (some 38), op := .call true 52 1 [(.tmp 37), (.val (.int .u64 65536))], guard := none, before := 3 },
            { dst := (some 35), op := .move (.tmp 38), guard := none, before := 7 },
            { dst := (some 39), op := .extract (.tmp 35) 0, guard := none, before := 15 },
            { dst := (some 40), op := .extract (.tmp 35) 1, guard := none, before := 15 },
            { dst := (some 7), op := .assign (.tmp 39), guard := none, before := 31 },
            { dst := (some 8), op := .assign (.tmp 40), guard := none, before := 127 }] false)
          (.seq
            (.block 2 none (.seq
                (.region [{ dst := (some 42), op := .move (.tmp 8), guard := none, before := 0 },
                  { dst := (some 43), op := .bin (.lss) (.tmp 42) (.val (.int .i64 0)), guard := none, before := 1 },
                  { dst := (some 41), op := .assign (.tmp 43), guard := none, before := 3 }] false)
                (.cond (.tmp 41)
                  (.seq
                    (.region [{ dst := (some 44), op := .build [(.int .u8 0), (.nilS 1)] [], guard := none, before := 0 },
                      { dst := none, op := .store 2 (.tmp 2) (.tmp 44), guard := none, before := 1 },
                      { dst := (some 3), op := .assign (.val (.int .i64 0)), guard := none, before := 3 },
                      { dst := (some 4), op := .assign (.val (.int .i64 62)), guard := none, before := 7 }] false)
                    (.ret))
                  (.seq
                    (.region [{ dst := (some 46), op := .move (.tmp 8), guard := none, before := 0 },
                      { dst := (some 47), op := .eq false (.num) (.tmp 46) (.val (.int .i64 0)), guard := none, before := 1 },
                      { dst := (some 45), op := .assign (.tmp 47), guard := none, before := 3 }] false)
                    (.cond (.tmp 45)
                      (.seq
                        (.region [{ dst := (some 48), op := .build [(.int .u8 0), (.nilS 1)] [], guard := none, before := 0 },
                          { dst := none, op := .store 2 (.tmp 2) (.tmp 48), guard := none, before := 1 },
                          { dst := (some 3), op := .assign (.val (.int .i64 0)), guard := none, before := 3 },
                          { dst := (some 4), op := .assign (.val (.int .i64 61)), guard := none, before := 7 }] false)
                        (.ret))
                      (.skip))))))
            (.seq
              (.region [{ dst := (some 49), op := .move (.tmp 8), guard := none, before := 0 },
                { dst := (some 50), op := .bin (.add) (.val (.int .i64 3)) (.tmp 49), guard := none, before := 1 },
                { dst := (some 51), op := .move (.tmp 7), guard := none, before := 0 },
                { dst := (some 52), op := .conv (.int (.i64)) (.tmp 51), guard := none, before := 4 },
                { dst := (some 53), op := .bin (.add) (.tmp 50) (.tmp 52), guard := none, before := 15 },
                { dst := (some 9), op := .assign (.tmp 53), guard := none, before := 31 }] false)
              (.seq
                (.seq
                  (.region [{ dst := (some 54), op := .move (.tmp 0), guard := none, before := 0 },
                    { dst := (some 55), op := .len (.slc 1) (.tmp 54), guard := none, before := 1 },
                    { dst := (some 56), op := .move (.tmp 9), guard := none, before := 0 },
                    { dst := (some 57), op := .bin (.lss) (.tmp 55) (.tmp 56), guard := none, before := 7 }] false)
                  (.cond (.tmp 57)
                    (.seq
                      (.region [{ dst := (some 58), op := .build [(.int .u8 0), (.nilS 1)] [], guard := none, before := 0 },
                        { dst := none, op := .store 2 (.tmp 2) (.tmp 58), guard := none, before := 1 },
                        { dst := (some 3), op := .assign (.val (.int .i64 0)), guard := none, before := 3 },
                        { dst := (some 4), op := .assign (.val (.int .i64 61)), guard := none, before := 7 }] false)
                      (.ret))
                    (.skip)))
                (.seq
                  (.region [{ dst := (some 59), op := .move (.tmp 0), guard := none, before := 0 },
                    { dst := (some 60), op := .move (.tmp 9), guard := none, before := 0 },
                    { dst := (some 61), op := .slice (.slc 1) (.tmp 59) none (some (.tmp 60)) none, guard := none, before := 3 },
                    { dst := (some 62), op := .buildSlice 1 [(.isl 0 1 [])] [(0, (.tmp 61))], guard := none, before := 7 },
                    { dst := (some 63), op := .call true 49 1 [(.tmp 62)], guard := none, before := 15 },
                    { dst := (some 10), op := .assign (.tmp 63), guard := none, before := 31 }] false)
                  (.seq
                    (.seq
                      (.region [{ dst := (some 64), op := .move (.val (.int .i64 0)), guard := none, before := 0 }] false)
                      (.block 3 (some [0, 2, 8, 9, 40]) (.loop (some [0, 2, 8, 9, 10, 40, 64])
                          (.seq
                            (.region [{ dst := (some 65), op := .bin (.lss) (.tmp 64) (.val (.int .i64 4)), guard := none, before := 0 }] false)
                            (.seq
                              (.cond (.tmp 65)
                                (.skip)
                                (.exit 3))
                              (.seq
                                (.block 4 none (.seq
                                    (.region [{ dst := (some 66), op := .move (.tmp 64), guard := none, before := 0 },
                                      { dst := (some 11), op := .assign (.tmp 66), guard := none, before := 1 }] false)
                                    (.seq
                                      (.seq
                                        (.region [{ dst := (some 67), op := .move (.tmp 9), guard := none, before := 0 },
                                          { dst := (some 68), op := .move (.tmp 11), guard := none, before := 0 },
                                          { dst := (some 69), op := .bin (.add) (.tmp 67) (.tmp 68), guard := none, before := 3 },
                                          { dst := (some 70), op := .move (.tmp 0), guard := none, before := 0 },
                                          { dst := (some 71), op := .len (.slc 1) (.tmp 70), guard := none, before := 8 },
                                          { dst := (some 72), op := .bin (.geq) (.tmp 69) (.tmp 71), guard := none, before := 31 }] false)
                                        (.cond (.tmp 72)
                                          (.seq
                                            (.region [{ dst := (some 73), op := .build [(.int .u8 0), (.nilS 1)] [], guard := none, before := 0 },
                                              { dst := none, op := .store 2 (.tmp 2) (.tmp 73), guard := none, before := 1 },
                                              { dst := (some 3), op := .assign (.val (.int .i64 0)), guard := none, before := 3 },
                                              { dst := (some 4), op := .assign (.val (.int .i64 61)), guard := none, before := 7 }] false)
                                            (.ret))
                                          (.skip)))
                                      (.seq
                                        (.region [{ dst := (some 74), op := .move (.tmp 0), guard := none, before := 0 },
                                          { dst := (some 75), op := .move (.tmp 9), guard := none, before := 0 },
                                          { dst := (some 76), op := .move (.tmp 11), guard := none, before := 0 },
                                          { dst := (some 77), op := .bin (.add) (.tmp 75) (.tmp 76), guard := none, before := 6 },
                                          { dst := (some 78), op := .indexAddr none 1 (.tmp 74) (.tmp 77), guard := none, before := 15 },
                                          { dst := (some 79), op := .load false 1 (.tmp 78), guard := none, before := 31 },
                                          { dst := (some 80), op := .move (.tmp 10), guard := none, before := 0 },
                                          { dst := (some 81), op := .move (.tmp 11), guard := none, before := 0 },
                                          { dst := (some 82), op := .bin (.mul) (.val (.int .i64 8)) (.tmp 81), guard := none, before := 128 },
                                          { dst := (some 83), op := .bin (.shr) (.tmp 80) (.tmp 82), guard := none, before := 448 },
                                          { dst := (some 84), op := .conv (.int (.u8)) (.tmp 83), guard := none, before := 960 },
                                          { dst := (some 85), op := .eq true (.num) (.tmp 79) (.tmp 84), guard := none, before := 2047 }] true)
                                        (.cond (.tmp 85)
                                          (.seq
                                            (.region [{ dst := (some 86), op := .build [(.int .u8 0), (.nilS 1)] [], guard := none, before := 0 },
                                              { dst := none, op := .store 2 (.tmp 2) (.tmp 86), guard := none, before := 1 },
                                              { dst := (some 3), op := .assign (.val (.int .i64 0)), guard := none, before := 3 },
                                              { dst := (some 4), op := .assign (.val (.int .i64 62)), guard := none, before := 7 }] false)
                                            (.ret))
                                          (.skip))))))
                                (.region [{ dst := (some 87), op := .bin (.add) (.tmp 64) (.val (.int .i64 1)), guard := none, before := 0 },
                                  { dst := (some 64), op := .move (.tmp 87), guard := none, before := 1 }] false)))))))
                    (.seq
                      (.region [{ dst := (some 88), op := .move (.tmp 0), guard := none, before := 0 },
                        { dst := (some 89), op := .indexAddr none 1 (.tmp 88) (.val (.int .i64 2)), guard := none, before := 1 },
                        { dst := (some 90), op := .load false 1 (.tmp 89), guard := none, before := 3 },
                        { dst := (some 91), op := .move (.tmp 0), guard := none, before := 0 },
                        { dst := (some 92), op := .move (.tmp 8), guard := none, before := 0 },
                        { dst := (some 93), op := .bin (.add) (.val (.int .i64 3)) (.tmp 92), guard := none, before := 16 },
                        { dst := (some 94), op := .move (.tmp 9), guard := none, before := 0 },
                        { dst := (some 95), op := .slice (.slc 1) (.tmp 91) (some (.tmp 93)) (some (.tmp 94)) none, guard := none, before := 120 },
                        { dst := (some 96), op := .call true 53 1 [(.tmp 95)], guard := none, before := 248 },
                        { dst := (some 97), op := .build [(.int .u8 0), (.nilS 1)] [(0, 1, (.tmp 90)), (1, 1, (.tmp 96))], guard := none, before := 511 },
                        { dst := (some 98), op := .move (.tmp 9), guard := none, before := 0 },
                        { dst := (some 99), op := .bin (.add) (.tmp 98) (.val (.int .i64 4)), guard := none, before := 1024 },
                        { dst := none, op := .store 2 (.tmp 2) (.tmp 97), guard := none, before := 1023 },
                        { dst := (some 3), op := .assign (.tmp 99), guard := none, before := 8191 },
                        { dst := (some 4), op := .assign (.val (.int .i64 0)), guard := none, before := 16383 }] true)
                      (.ret))))))))))
def v34 : VFunc := { nparams := 1, ntmps := 100, nsites := 1, results := [.cell 2 true 2, .tmp 3, .tmp 4], body := b34 }
/-- packhorse/packet.number -/
def b52 : VCode :=
  .seq
    (.region [{ dst := (some 4), op := .assign (.val (.int .u64 0)), guard := none, before := 0 },
      { dst := (some 5), op := .assign (.val (.int .i64 0)), guard := none, before := 1 }] false)
    (.seq
      (.region [{ dst := (some 6), op := .assign (.val (.int .u64 0)), guard := none, before := 0 }] false)
      (.seq
        (.seq
          (.region [{ dst := (some 10), op := .move (.tmp 0), guard := none, before := 0 },
            { dst := (some 11), op := .len (.slc 1) (.tmp 10), guard := none, before := 1 },
            { dst := (some 12), op := .move (.val (.int .i64 0)), guard := none, before := 0 }] false)
          (.block 0 (some []) (.loop (some [0, 1, 6, 10, 11, 12])
              (.seq
                (.region [{ dst := (some 13), op := .bin (.lss) (.tmp 12) (.tmp 11), guard := none, before := 0 }] false)
                (.seq
                  (.cond (.tmp 13)
                    (.skip)
                    (.exit 0))
                  (.seq
                    (.block 1 none (.seq
                        (.region [{ dst := (some 14), op := .move (.tmp 12), guard := none, before := 0 },
                          { dst := (some 15), op := .indexAddr none 1 (.tmp 10) (.tmp 12), guard := none, before := 0 },
                          { dst := (some 16), op := .load false 1 (.tmp 15), guard := none, before := 2 },
                          { dst := (some 7), op := .assign (.tmp 14), guard := none, before := 7 },
                          { dst := (some 8), op := .assign (.tmp 16), guard := none, before := 15 }] false)
                        (.seq
                          (.region [{ dst := (some 17), op := .move (.tmp 8), guard := none, before := 0 },
                            { dst := (some 18), op := .bin (.and) (.tmp 17) (.val (.int .u8 127)), guard := none, before := 1 },
                            { dst := (some 19), op := .conv (.int (.u64)) (.tmp 18), guard := none, before := 3 },
                            { dst := (some 9), op := .assign (.tmp 19), guard := none, before := 7 }] false)
                          (.seq
                            (.seq
                              (.region [{ dst := (some 20), op := .move (.tmp 7), guard := none, before := 0 },
                                { dst := (some 21), op := .eq false (.num) (.tmp 20) (.val (.int .i64 9)), guard := none, before := 1 },
                                { dst := (some 22), op := .move (.tmp 21), guard := none, before := 3 },
                                { dst := (some 23), op := .move (.tmp 8), guard := (some (22, true)), before := 7 },
                                { dst := (some 24), op := .bin (.gtr) (.tmp 23) (.val (.int .u8 1)), guard := (some (22, true)), before := 15 },
                                { dst := (some 25), op := .pick (.tmp 22) (.tmp 24) (.val (.bool false)), guard := none, before := 31 },
                                { dst := (some 26), op := .move (.tmp 25), guard := none, before := 63 },
                                { dst := (some 27), op := .move (.tmp 7), guard := (some (26, false)), before := 127 },
                                { dst := (some 28), op := .bin (.gtr) (.tmp 27) (.val (.int .i64 0)), guard := (some (26, false)), before := 255 },
                                { dst := (some 29), op := .move (.tmp 28), guard := (some (26, false)), before := 511 },
                                { dst := (some 30), op := .move (.tmp 8), guard := (some (29, true)), before := 1023 },
                                { dst := (some 31), op := .eq false (.num) (.tmp 30) (.val (.int .u8 0)), guard := (some (29, true)), before := 2047 },
                                { dst := (some 32), op := .pick (.tmp 29) (.tmp 31) (.val (.bool false)), guard := (some (26, false)), before := 4095 },
                                { dst := (some 33), op := .pick (.tmp 26) (.val (.bool true)) (.tmp 32), guard := none, before := 8191 },
                                { dst := (some 34), op := .move (.tmp 33), guard := none, before := 16383 },
                                { dst := (some 35), op := .move (.tmp 9), guard := (some (34, false)), before := 32767 },
                                { dst := (some 36), op := .move (.tmp 1), guard := (some (34, false)), before := 32767 },
                                { dst := (some 37), op := .move (.tmp 7), guard := (some (34, false)), before := 32767 },
                                { dst := (some 38), op := .bin (.mul) (.val (.int .i64 7)) (.tmp 37), guard := (some (34, false)), before := 163839 },
                                { dst := (some 39), op := .bin (.shr) (.tmp 36) (.tmp 38), guard := (some (34, false)), before := 491519 },
                                { dst := (some 40), op := .bin (.gtr) (.tmp 35) (.tmp 39), guard := (some (34, false)), before := 1048575 },
                                { dst := (some 41), op := .pick (.tmp 34) (.val (.bool true)) (.tmp 40), guard := none, before := 2097151 }] false)
                              (.cond (.tmp 41)
                                (.seq
                                  (.region [{ dst := (some 4), op := .assign (.val (.int .u64 0)), guard := none, before := 0 },
                                    { dst := (some 5), op := .assign (.val (.int .i64 (-1))), guard := none, before := 1 }] false)
                                  (.ret))
                                (.skip)))
                            (.seq
                              (.region [{ dst := (some 42), op := .move (.tmp 6), guard := none, before := 0 },
                                { dst := (some 43), op := .move (.tmp 9), guard := none, before := 0 },
                                { dst := (some 44), op := .move (.tmp 7), guard := none, before := 0 },
                                { dst := (some 45), op := .bin (.mul) (.val (.int .i64 7)) (.tmp 44), guard := none, before := 4 },
                                { dst := (some 46), op := .bin (.shl) (.tmp 43) (.tmp 45), guard := none, before := 14 },
                                { dst := (some 47), op := .bin (.or) (.tmp 42) (.tmp 46), guard := none, before := 31 },
                                { dst := (some 6), op := .assign (.tmp 47), guard := none, before := 63 }] false)
                              (.seq
                                (.seq
                                  (.region [{ dst := (some 48), op := .move (.tmp 6), guard := none, before := 0 },
                                    { dst := (some 49), op := .move (.tmp 1), guard := none, before := 0 },
                                    { dst := (some 50), op := .bin (.gtr) (.tmp 48) (.tmp 49), guard := none, before := 3 }] false)
                                  (.cond (.tmp 50)
                                    (.seq
                                      (.region [{ dst := (some 4), op := .assign (.val (.int .u64 0)), guard := none, before := 0 },
                                        { dst := (some 5), op := .assign (.val (.int .i64 (-1))), guard := none, before := 1 }] false)
                                      (.ret))
                                    (.skip)))
                                (.seq
                                  (.seq
                                    (.region [{ dst := (some 51), op := .move (.tmp 8), guard := none, before := 0 },
                                      { dst := (some 52), op := .bin (.lss) (.tmp 51) (.val (.int .u8 128)), guard := none, before := 1 }] false)
                                    (.cond (.tmp 52)
                                      (.seq
                                        (.region [{ dst := (some 53), op := .move (.tmp 6), guard := none, before := 0 },
                                          { dst := (some 54), op := .move (.tmp 7), guard := none, before := 0 },
                                          { dst := (some 55), op := .bin (.add) (.tmp 54) (.val (.int .i64 1)), guard := none, before := 2 },
                                          { dst := (some 4), op := .assign (.tmp 53), guard := none, before := 1 },
                                          { dst := (some 5), op := .assign (.tmp 55), guard := none, before := 15 }] false)
                                        (.ret))
                                      (.skip)))
                                  (.seq
                                    (.region [{ dst := (some 56), op := .move (.tmp 1), guard := none, before := 0 },
                                      { dst := (some 57), op := .move (.tmp 6), guard := none, before := 0 },
                                      { dst := (some 58), op := .bin (.sub) (.tmp 56) (.tmp 57), guard := none, before := 3 },
                                      { dst := (some 59), op := .move (.tmp 7), guard := none, before := 0 },
                                      { dst := (some 60), op := .bin (.add) (.tmp 59) (.val (.int .i64 1)), guard := none, before := 8 },
                                      { dst := (some 61), op := .bin (.mul) (.val (.int .i64 7)) (.tmp 60), guard := none, before := 24 },
                                      { dst := (some 62), op := .bin (.shl) (.val (.int .u64 1)) (.tmp 61), guard := none, before := 56 },
                                      { dst := (some 63), op := .bin (.lss) (.tmp 58) (.tmp 62), guard := none, before := 127 }] false)
                                    (.cond (.tmp 63)
                                      (.seq
                                        (.region [{ dst := (some 4), op := .assign (.val (.int .u64 0)), guard := none, before := 0 },
                                          { dst := (some 5), op := .assign (.val (.int .i64 (-1))), guard := none, before := 1 }] false)
                                        (.ret))
                                      (.skip))))))))))
                    (.region [{ dst := (some 64), op := .bin (.add) (.tmp 12) (.val (.int .i64 1)), guard := none, before := 0 },
                      { dst := (some 12), op := .move (.tmp 64), guard := none, before := 1 }] false)))))))
        (.seq
          (.region [{ dst := (some 4), op := .assign (.val (.int .u64 0)), guard := none, before := 0 },
            { dst := (some 5), op := .assign (.val (.int .i64 0)), guard := none, before := 1 }] false)
          (.ret))))
def v52 : VFunc := { nparams := 2, ntmps := 65, nsites := 0, results := [.tmp 4, .tmp 5], body := b52 }

section
variable {cal : Callee} {σ τ : St} {base : Nat}
theorem vshrT {d : Option Nat} {a b bf : Nat} {k k' : IntKind} {x y : Int} (ha : σ.slot a = .int k x) (hb : σ.slot b = .int k' y) (h0 : 0 ≤ y) (hp : (putO d (.int k (x.fdiv (2 ^ min y.toNat k.bits))) .ret).run σ = some τ) :
    (VOper.prog cal base ⟨d, .bin .shr (.tmp a) (.tmp b), none, bf⟩).run σ = some τ := by
  have hn : ¬ y < 0 := by omega
  simp only [VOper.prog, opProg, gOpd, Prog.run, ha, hb, binV, if_neg hn, optV]
  exact hp
theorem vshlT {d : Option Nat} {a b bf : Nat} {k k' : IntKind} {x y : Int} (ha : σ.slot a = .int k x) (hb : σ.slot b = .int k' y) (h0 : 0 ≤ y) (hp : (putO d (.int k (k.wrap (x * 2 ^ min y.toNat k.bits))) .ret).run σ = some τ) :
    (VOper.prog cal base ⟨d, .bin .shl (.tmp a) (.tmp b), none, bf⟩).run σ = some τ := by
  have hn : ¬ y < 0 := by omega
  simp only [VOper.prog, opProg, gOpd, Prog.run, ha, hb, binV, if_neg hn, optV]
  exact hp
theorem vshlV {d : Option Nat} {b bf : Nat} {k k' : IntKind} {x y : Int} (hb : σ.slot b = .int k' y) (h0 : 0 ≤ y) (hp : (putO d (.int k (k.wrap (x * 2 ^ min y.toNat k.bits))) .ret).run σ = some τ) :
    (VOper.prog cal base ⟨d, .bin .shl (.val (.int k x)) (.tmp b), none, bf⟩).run σ = some τ := by
  have hn : ¬ y < 0 := by omega
  simp only [VOper.prog, opProg, gOpd, Prog.run, hb, binV, if_neg hn, optV]
  exact hp
end
variable (cal : Callee) (its : FuncId → Iter) (again : Nat → VCode → St → Option (Out × St))
/-- The number at the beginning of bytes, by definition. -/
def dec (lim : Nat) : Nat → Nat → List Nat → Int × Int
  | _, _, [] => (0, 0)
  | i, n, x :: r =>
    if (i = 9 ∧ 1 < x) ∨ (0 < i ∧ x = 0) ∨ lim < n + x % 128 * 2 ^ (7 * i) then (0, -1)
    else if x < 128 then (((n + x % 128 * 2 ^ (7 * i) : Nat) : Int), ((i + 1 : Nat) : Int))
    else if lim - (n + x % 128 * 2 ^ (7 * i)) < 2 ^ (7 * (i + 1)) then (0, -1)
    else dec lim (i + 1) (n + x % 128 * 2 ^ (7 * i)) r
def body52 : VCode := (.seq (.region [{ dst := (some 13), op := .bin (.lss) (.tmp 12) (.tmp 11), guard := none, before := 0 }] false) (.seq (.cond (.tmp 13) (.skip) (.exit 0)) (.seq (.block 1 none (.seq (.region [{ dst := (some 14), op := .move (.tmp 12), guard := none, before := 0 }, { dst := (some 15), op := .indexAddr none 1 (.tmp 10) (.tmp 12), guard := none, before := 0 }, { dst := (some 16), op := .load false 1 (.tmp 15), guard := none, before := 2 }, { dst := (some 7), op := .assign (.tmp 14), guard := none, before := 7 }, { dst := (some 8), op := .assign (.tmp 16), guard := none, before := 15 }] false) (.seq (.region [{ dst := (some 17), op := .move (.tmp 8), guard := none, before := 0 }, { dst := (some 18), op := .bin (.and) (.tmp 17) (.val (.int .u8 127)), guard := none, before := 1 }, { dst := (some 19), op := .conv (.int (.u64)) (.tmp 18), guard := none, before := 3 }, { dst := (some 9), op := .assign (.tmp 19), guard := none, before := 7 }] false) (.seq (.seq (.region [{ dst := (some 20), op := .move (.tmp 7), guard := none, before := 0 }, { dst := (some 21), op := .eq false (.num) (.tmp 20) (.val (.int .i64 9)), guard := none, before := 1 }, { dst := (some 22), op := .move (.tmp 21), guard := none, before := 3 }, { dst := (some 23), op := .move (.tmp 8), guard := (some (22, true)), before := 7 }, { dst := (some 24), op := .bin (.gtr) (.tmp 23) (.val (.int .u8 1)), guard := (some (22, true)), before := 15 }, { dst := (some 25), op := .pick (.tmp 22) (.tmp 24) (.val (.bool false)), guard := none, before := 31 }, { dst := (some 26), op := .move (.tmp 25), guard := none, before := 63 }, { dst := (some 27), op := .move (.tmp 7), guard := (some (26, false)), before := 127 }, { dst := (some 28), op := .bin (.gtr) (.tmp 27) (.val (.int .i64 0)), guard := (some (26, false)), before := 255 }, { dst := (some 29), op := .move (.tmp 28), guard := (some (26, false)), before := 511 }, { dst := (some 30), op := .move (.tmp 8), guard := (some (29, true)), before := 1023 }, { dst := (some 31), op := .eq false (.num) (.tmp 30) (.val (.int .u8 0)), guard := (some (29, true)), before := 2047 }, { dst := (some 32), op := .pick (.tmp 29) (.tmp 31) (.val (.bool false)), guard := (some (26, false)), before := 4095 }, { dst := (some 33), op := .pick (.tmp 26) (.val (.bool true)) (.tmp 32), guard := none, before := 8191 }, { dst := (some 34), op := .move (.tmp 33), guard := none, before := 16383 }, { dst := (some 35), op := .move (.tmp 9), guard := (some (34, false)), before := 32767 }, { dst := (some 36), op := .move (.tmp 1), guard := (some (34, false)), before := 32767 }, { dst := (some 37), op := .move (.tmp 7), guard := (some (34, false)), before := 32767 }, { dst := (some 38), op := .bin (.mul) (.val (.int .i64 7)) (.tmp 37), guard := (some (34, false)), before := 163839 }, { dst := (some 39), op := .bin (.shr) (.tmp 36) (.tmp 38), guard := (some (34, false)), before := 491519 }, { dst := (some 40), op := .bin (.gtr) (.tmp 35) (.tmp 39), guard := (some (34, false)), before := 1048575 }, { dst := (some 41), op := .pick (.tmp 34) (.val (.bool true)) (.tmp 40), guard := none, before := 2097151 }] false) (.cond (.tmp 41) (.seq (.region [{ dst := (some 4), op := .assign (.val (.int .u64 0)), guard := none, before := 0 }, { dst := (some 5), op := .assign (.val (.int .i64 (-1))), guard := none, before := 1 }] false) (.ret)) (.skip))) (.seq (.region [{ dst := (some 42), op := .move (.tmp 6), guard := none, before := 0 }, { dst := (some 43), op := .move (.tmp 9), guard := none, before := 0 }, { dst := (some 44), op := .move (.tmp 7), guard := none, before := 0 }, { dst := (some 45), op := .bin (.mul) (.val (.int .i64 7)) (.tmp 44), guard := none, before := 4 }, { dst := (some 46), op := .bin (.shl) (.tmp 43) (.tmp 45), guard := none, before := 14 }, { dst := (some 47), op := .bin (.or) (.tmp 42) (.tmp 46), guard := none, before := 31 }, { dst := (some 6), op := .assign (.tmp 47), guard := none, before := 63 }] false) (.seq (.seq (.region [{ dst := (some 48), op := .move (.tmp 6), guard := none, before := 0 }, { dst := (some 49), op := .move (.tmp 1), guard := none, before := 0 }, { dst := (some 50), op := .bin (.gtr) (.tmp 48) (.tmp 49), guard := none, before := 3 }] false) (.cond (.tmp 50) (.seq (.region [{ dst := (some 4), op := .assign (.val (.int .u64 0)), guard := none, before := 0 }, { dst := (some 5), op := .assign (.val (.int .i64 (-1))), guard := none, before := 1 }] false) (.ret)) (.skip))) (.seq (.seq (.region [{ dst := (some 51), op := .move (.tmp 8), guard := none, before := 0 }, { dst := (some 52), op := .bin (.lss) (.tmp 51) (.val (.int .u8 128)), guard := none, before := 1 }] false) (.cond (.tmp 52) (.seq (.region [{ dst := (some 53), op := .move (.tmp 6), guard := none, before := 0 }, { dst := (some 54), op := .move (.tmp 7), guard := none, before := 0 }, { dst := (some 55), op := .bin (.add) (.tmp 54) (.val (.int .i64 1)), guard := none, before := 2 }, { dst := (some 4), op := .assign (.tmp 53), guard := none, before := 1 }, { dst := (some 5), op := .assign (.tmp 55), guard := none, before := 15 }] false) (.ret)) (.skip))) (.seq (.region [{ dst := (some 56), op := .move (.tmp 1), guard := none, before := 0 }, { dst := (some 57), op := .move (.tmp 6), guard := none, before := 0 }, { dst := (some 58), op := .bin (.sub) (.tmp 56) (.tmp 57), guard := none, before := 3 }, { dst := (some 59), op := .move (.tmp 7), guard := none, before := 0 }, { dst := (some 60), op := .bin (.add) (.tmp 59) (.val (.int .i64 1)), guard := none, before := 8 }, { dst := (some 61), op := .bin (.mul) (.val (.int .i64 7)) (.tmp 60), guard := none, before := 24 }, { dst := (some 62), op := .bin (.shl) (.val (.int .u64 1)) (.tmp 61), guard := none, before := 56 }, { dst := (some 63), op := .bin (.lss) (.tmp 58) (.tmp 62), guard := none, before := 127 }] false) (.cond (.tmp 63) (.seq (.region [{ dst := (some 4), op := .assign (.val (.int .u64 0)), guard := none, before := 0 }, { dst := (some 5), op := .assign (.val (.int .i64 (-1))), guard := none, before := 1 }] false) (.ret)) (.skip)))))))))) (.region [{ dst := (some 64), op := .bin (.add) (.tmp 12) (.val (.int .i64 1)), guard := none, before := 0 }, { dst := (some 12), op := .move (.tmp 64), guard := none, before := 1 }] false))))
def st52 (l : List Nat) (lim n i : Nat) : St :=
  { slots := (.isl 0 1 (byN l) :: .int .u64 lim :: .gone 0 :: .gone 0 :: .gone 0 :: .gone 0 :: .int .u64 n :: .gone 0 :: .gone 0 :: .gone 0 :: .isl 0 1 (byN l) :: .int .i64 (byN l).length :: .int .i64 i :: .gone 0 :: .gone 0 :: .gone 0 :: .gone 0 :: .gone 0 :: .gone 0 :: .gone 0 :: .gone 0 :: .gone 0 :: .gone 0 :: .gone 0 :: .gone 0 :: .gone 0 :: .gone 0 :: .gone 0 :: .gone 0 :: .gone 0 :: .gone 0 :: .gone 0 :: .gone 0 :: .gone 0 :: .gone 0 :: .gone 0 :: .gone 0 :: .gone 0 :: .gone 0 :: .gone 0 :: .gone 0 :: .gone 0 :: .gone 0 :: .gone 0 :: .gone 0 :: .gone 0 :: .gone 0 :: .gone 0 :: .gone 0 :: .gone 0 :: .gone 0 :: .gone 0 :: .gone 0 :: .gone 0 :: .gone 0 :: .gone 0 :: .gone 0 :: .gone 0 :: .gone 0 :: .gone 0 :: .gone 0 :: .gone 0 :: .gone 0 :: .gone 0 :: .gone 0 :: []), objs := [] }
def ex52 (l : List Nat) (lim n i : Nat) : St :=
  { slots := (.isl 0 1 (byN l) :: .int .u64 lim :: .gone 0 :: .gone 0 :: .gone 0 :: .gone 0 :: .int .u64 n :: .gone 0 :: .gone 0 :: .gone 0 :: .isl 0 1 (byN l) :: .int .i64 (byN l).length :: .int .i64 i :: .bool false :: .gone 0 :: .gone 0 :: .gone 0 :: .gone 0 :: .gone 0 :: .gone 0 :: .gone 0 :: .gone 0 :: .gone 0 :: .gone 0 :: .gone 0 :: .gone 0 :: .gone 0 :: .gone 0 :: .gone 0 :: .gone 0 :: .gone 0 :: .gone 0 :: .gone 0 :: .gone 0 :: .gone 0 :: .gone 0 :: .gone 0 :: .gone 0 :: .gone 0 :: .gone 0 :: .gone 0 :: .gone 0 :: .gone 0 :: .gone 0 :: .gone 0 :: .gone 0 :: .gone 0 :: .gone 0 :: .gone 0 :: .gone 0 :: .gone 0 :: .gone 0 :: .gone 0 :: .gone 0 :: .gone 0 :: .gone 0 :: .gone 0 :: .gone 0 :: .gone 0 :: .gone 0 :: .gone 0 :: .gone 0 :: .gone 0 :: .gone 0 :: .gone 0 :: []), objs := [] }
theorem and127 (x : Nat) (hx : x < 256) : IntKind.u8.wrap (BitVec.ofInt IntKind.u8.bits (x : Int) &&& BitVec.ofInt IntKind.u8.bits 127).toNat = ((x % 128 : Nat) : Int) := by
  have e : (BitVec.ofInt 8 (x : Int) &&& BitVec.ofInt 8 127).toNat = x % 128 := by
    rw [show (127 : Int) = ((127 : Nat) : Int) from rfl, andN x 127 hx (by decide)]
    exact Nat.and_two_pow_sub_one_eq_mod x 7
  have : IntKind.u8.wrap (((BitVec.ofInt 8 (x : Int) &&& BitVec.ofInt 8 127).toNat : Nat) : Int) = ((x % 128 : Nat) : Int) := by
    rw [e, wrap8]; omega
  exact this
section
variable (l : List Nat) (lim n i : Nat) (hi : i < l.length) (hl : l.length < 2 ^ 40) (hi9 : i ≤ 9) (hx : l[i] < 256) (hlim : lim < 2 ^ 64) (hn : n < 2 ^ (7 * i))
def Ret (r1 r2 : Int) : Prop := ∃ s, step cal its again 0 body52 (st52 l lim n i) = some (.ret, s) ∧ finish v52 0 s = some (.tup [.int .u64 r1, .int .i64 r2], [])
include hi hl hi9 hx
theorem bad1 (b1 b2 b3 b4 : Bool) (c1 : ((i : Int) == 9) = b1) (c2 : decide (((l[i] : Nat) : Int) > 1) = b2) (c3 : decide ((i : Int) > 0) = b3) (c4 : (((l[i] : Nat) : Int) == 0) = b4) (hb : b1 = true ∧ b2 = true)  : Ret cal its again l lim n i (0) (-1) := by
  have hg := byN_get l i hi
  have hlt : decide ((i : Int) < ((byN l).length : Int)) = true := by rw [byN_len]; simp; omega
  have hp := and127 l[i] hx
  have hp2 : IntKind.u64.wrap ((l[i] % 128 : Nat) : Int) = ((l[i] % 128 : Nat) : Int) := wrap64 _ (by omega)
  have h7 : IntKind.i64.wrap (7 * (i : Int)) = ((7 * i : Nat) : Int) := wrap_i64 (7 * i) (by omega)
  have hadd := inc_i64 i (by omega)
  have h7' : IntKind.i64.wrap (7 * ((i + 1 : Nat) : Int)) = ((7 * (i + 1) : Nat) : Int) := wrap_i64 (7 * (i + 1)) (by omega)
  unfold Ret body52 st52
  obtain ⟨rfl, rfl⟩ := hb
  all_goals
    apply vend
    · (with_reducible apply Vq.vseq)
      · repeat' (((first
      | (with_reducible exact Vq.runOps_nil)
      | ((with_reducible apply Vq.runOps_cons); (first | exact rfl | ((try apply S6.vguard rfl); (first | apply S11.vshrT rfl rfl (Int.natCast_nonneg _) | apply S11.vshlT rfl rfl (Int.natCast_nonneg _) | apply S11.vshlV rfl (Int.natCast_nonneg _) | apply Vq.vidx rfl rfl (.inl rfl) (Int.natCast_nonneg _) (by assumption)); exact rfl)))
      | ((with_reducible first | apply Vq.vret | apply Vq.vskip | apply Vq.vexit | apply Vq.vab0 | apply Vq.vab1 | apply Vq.vabr); exact rfl)
      | ((with_reducible apply Vq.vregion); case hr => exact rfl)
      | (with_reducible first | apply Vq.vseq | apply Vq.vblock)
      | ((with_reducible apply Vq.vcond); exact rfl; dsimp only [Vq.pickC])
      | ((with_reducible apply Vq.vabx); (· decide); exact rfl) | dsimp only [Vq.afterSeq]); (try simp only [z1, z2, z3, z4, z5, z6, z7, z8, z9, z10, z11, z12, z13, z14, z15, z16, z17, z18, V.withLeaves, V.borrow, freeze1, borrows, borrow1, V.leaves, V.nextg, Nat.reduceAdd, Nat.reduceSub, layTup, obj1, splice, Bool.false_eq_true, if_true, if_false, Bool.not_true, Bool.not_false, hlt])))
      dsimp only [afterSeq]
      (with_reducible apply Vq.vseq)
      · repeat' (((first
      | (with_reducible exact Vq.runOps_nil)
      | ((with_reducible apply Vq.runOps_cons); (first | exact rfl | ((try apply S6.vguard rfl); (first | apply S11.vshrT rfl rfl (Int.natCast_nonneg _) | apply S11.vshlT rfl rfl (Int.natCast_nonneg _) | apply S11.vshlV rfl (Int.natCast_nonneg _) | apply Vq.vidx rfl rfl (.inl rfl) (Int.natCast_nonneg _) (by assumption)); exact rfl)))
      | ((with_reducible first | apply Vq.vret | apply Vq.vskip | apply Vq.vexit | apply Vq.vab0 | apply Vq.vab1 | apply Vq.vabr); exact rfl)
      | ((with_reducible apply Vq.vregion); case hr => exact rfl)
      | (with_reducible first | apply Vq.vseq | apply Vq.vblock)
      | ((with_reducible apply Vq.vcond); exact rfl; dsimp only [Vq.pickC])
      | ((with_reducible apply Vq.vabx); (· decide); exact rfl) | dsimp only [Vq.afterSeq]); (try simp only [z1, z2, z3, z4, z5, z6, z7, z8, z9, z10, z11, z12, z13, z14, z15, z16, z17, z18, V.withLeaves, V.borrow, freeze1, borrows, borrow1, V.leaves, V.nextg, Nat.reduceAdd, Nat.reduceSub, layTup, obj1, splice, Bool.false_eq_true, if_true, if_false, Bool.not_true, Bool.not_false, hlt])))
      dsimp only [afterSeq]
      (with_reducible apply Vq.vseq)
      · (with_reducible apply vblock)
        · (with_reducible apply Vq.vseq)
          · repeat' (((first
      | (with_reducible exact Vq.runOps_nil)
      | ((with_reducible apply Vq.runOps_cons); (first | exact rfl | ((try apply S6.vguard rfl); (first | apply S11.vshrT rfl rfl (Int.natCast_nonneg _) | apply S11.vshlT rfl rfl (Int.natCast_nonneg _) | apply S11.vshlV rfl (Int.natCast_nonneg _) | apply Vq.vidx rfl rfl (.inl rfl) (Int.natCast_nonneg _) (by assumption)); exact rfl)))
      | ((with_reducible first | apply Vq.vret | apply Vq.vskip | apply Vq.vexit | apply Vq.vab0 | apply Vq.vab1 | apply Vq.vabr); exact rfl)
      | ((with_reducible apply Vq.vregion); case hr => exact rfl)
      | (with_reducible first | apply Vq.vseq | apply Vq.vblock)
      | ((with_reducible apply Vq.vcond); exact rfl; dsimp only [Vq.pickC])
      | ((with_reducible apply Vq.vabx); (· decide); exact rfl) | dsimp only [Vq.afterSeq]); (try simp only [z1, z2, z3, z4, z5, z6, z7, z8, z9, z10, z11, z12, z13, z14, z15, z16, z17, z18, V.withLeaves, V.borrow, freeze1, borrows, borrow1, V.leaves, V.nextg, Nat.reduceAdd, Nat.reduceSub, layTup, obj1, splice, Bool.false_eq_true, if_true, if_false, Bool.not_true, Bool.not_false])))
          dsimp only [afterSeq]
          repeat' (((first
      | (with_reducible exact Vq.runOps_nil)
      | ((with_reducible apply Vq.runOps_cons); (first | exact rfl | ((try apply S6.vguard rfl); (first | apply S11.vshrT rfl rfl (Int.natCast_nonneg _) | apply S11.vshlT rfl rfl (Int.natCast_nonneg _) | apply S11.vshlV rfl (Int.natCast_nonneg _) | apply Vq.vidx rfl rfl (.inl rfl) (Int.natCast_nonneg _) (by assumption)); exact rfl)))
      | ((with_reducible first | apply Vq.vret | apply Vq.vskip | apply Vq.vexit | apply Vq.vab0 | apply Vq.vab1 | apply Vq.vabr); exact rfl)
      | ((with_reducible apply Vq.vregion); case hr => exact rfl)
      | (with_reducible first | apply Vq.vseq | apply Vq.vblock)
      | ((with_reducible apply Vq.vcond); exact rfl; dsimp only [Vq.pickC])
      | ((with_reducible apply Vq.vabx); (· decide); exact rfl) | dsimp only [Vq.afterSeq]); (try simp only [z1, z2, z3, z4, z5, z6, z7, z8, z9, z10, z11, z12, z13, z14, z15, z16, z17, z18, V.withLeaves, V.borrow, freeze1, borrows, borrow1, V.leaves, V.nextg, Nat.reduceAdd, Nat.reduceSub, layTup, obj1, splice, Bool.false_eq_true, if_true, if_false, Bool.not_true, Bool.not_false, hp, hp2, c1, c2, c3, c4])))
        repeat' (((first
      | (with_reducible exact Vq.runOps_nil)
      | ((with_reducible apply Vq.runOps_cons); (first | exact rfl | ((try apply S6.vguard rfl); (first | apply S11.vshrT rfl rfl (Int.natCast_nonneg _) | apply S11.vshlT rfl rfl (Int.natCast_nonneg _) | apply S11.vshlV rfl (Int.natCast_nonneg _) | apply Vq.vidx rfl rfl (.inl rfl) (Int.natCast_nonneg _) (by assumption)); exact rfl)))
      | ((with_reducible first | apply Vq.vret | apply Vq.vskip | apply Vq.vexit | apply Vq.vab0 | apply Vq.vab1 | apply Vq.vabr); exact rfl)
      | ((with_reducible apply Vq.vregion); case hr => exact rfl)
      | (with_reducible first | apply Vq.vseq | apply Vq.vblock)
      | ((with_reducible apply Vq.vcond); exact rfl; dsimp only [Vq.pickC])
      | ((with_reducible apply Vq.vabx); (· decide); exact rfl) | dsimp only [Vq.afterSeq]); (try simp only [z1, z2, z3, z4, z5, z6, z7, z8, z9, z10, z11, z12, z13, z14, z15, z16, z17, z18, V.withLeaves, V.borrow, freeze1, borrows, borrow1, V.leaves, V.nextg, Nat.reduceAdd, Nat.reduceSub, layTup, obj1, splice, Bool.false_eq_true, if_true, if_false, Bool.not_true, Bool.not_false])))
      dsimp only [afterSeq]
    · exact rfl
theorem bad2 (b1 b2 b3 b4 : Bool) (c1 : ((i : Int) == 9) = b1) (c2 : decide (((l[i] : Nat) : Int) > 1) = b2) (c3 : decide ((i : Int) > 0) = b3) (c4 : (((l[i] : Nat) : Int) == 0) = b4) (hb : (b1 = false ∧ b3 = true ∧ b4 = true) ∨ (b1 = true ∧ b2 = false ∧ b3 = true ∧ b4 = true))  : Ret cal its again l lim n i (0) (-1) := by
  have hg := byN_get l i hi
  have hlt : decide ((i : Int) < ((byN l).length : Int)) = true := by rw [byN_len]; simp; omega
  have hp := and127 l[i] hx
  have hp2 : IntKind.u64.wrap ((l[i] % 128 : Nat) : Int) = ((l[i] % 128 : Nat) : Int) := wrap64 _ (by omega)
  have h7 : IntKind.i64.wrap (7 * (i : Int)) = ((7 * i : Nat) : Int) := wrap_i64 (7 * i) (by omega)
  have hadd := inc_i64 i (by omega)
  have h7' : IntKind.i64.wrap (7 * ((i + 1 : Nat) : Int)) = ((7 * (i + 1) : Nat) : Int) := wrap_i64 (7 * (i + 1)) (by omega)
  unfold Ret body52 st52
  rcases hb with ⟨rfl, rfl, rfl⟩ | ⟨rfl, rfl, rfl, rfl⟩
  all_goals
    apply vend
    · (with_reducible apply Vq.vseq)
      · repeat' (((first
      | (with_reducible exact Vq.runOps_nil)
      | ((with_reducible apply Vq.runOps_cons); (first | exact rfl | ((try apply S6.vguard rfl); (first | apply S11.vshrT rfl rfl (Int.natCast_nonneg _) | apply S11.vshlT rfl rfl (Int.natCast_nonneg _) | apply S11.vshlV rfl (Int.natCast_nonneg _) | apply Vq.vidx rfl rfl (.inl rfl) (Int.natCast_nonneg _) (by assumption)); exact rfl)))
      | ((with_reducible first | apply Vq.vret | apply Vq.vskip | apply Vq.vexit | apply Vq.vab0 | apply Vq.vab1 | apply Vq.vabr); exact rfl)
      | ((with_reducible apply Vq.vregion); case hr => exact rfl)
      | (with_reducible first | apply Vq.vseq | apply Vq.vblock)
      | ((with_reducible apply Vq.vcond); exact rfl; dsimp only [Vq.pickC])
      | ((with_reducible apply Vq.vabx); (· decide); exact rfl) | dsimp only [Vq.afterSeq]); (try simp only [z1, z2, z3, z4, z5, z6, z7, z8, z9, z10, z11, z12, z13, z14, z15, z16, z17, z18, V.withLeaves, V.borrow, freeze1, borrows, borrow1, V.leaves, V.nextg, Nat.reduceAdd, Nat.reduceSub, layTup, obj1, splice, Bool.false_eq_true, if_true, if_false, Bool.not_true, Bool.not_false, hlt])))
      dsimp only [afterSeq]
      (with_reducible apply Vq.vseq)
      · repeat' (((first
      | (with_reducible exact Vq.runOps_nil)
      | ((with_reducible apply Vq.runOps_cons); (first | exact rfl | ((try apply S6.vguard rfl); (first | apply S11.vshrT rfl rfl (Int.natCast_nonneg _) | apply S11.vshlT rfl rfl (Int.natCast_nonneg _) | apply S11.vshlV rfl (Int.natCast_nonneg _) | apply Vq.vidx rfl rfl (.inl rfl) (Int.natCast_nonneg _) (by assumption)); exact rfl)))
      | ((with_reducible first | apply Vq.vret | apply Vq.vskip | apply Vq.vexit | apply Vq.vab0 | apply Vq.vab1 | apply Vq.vabr); exact rfl)
      | ((with_reducible apply Vq.vregion); case hr => exact rfl)
      | (with_reducible first | apply Vq.vseq | apply Vq.vblock)
      | ((with_reducible apply Vq.vcond); exact rfl; dsimp only [Vq.pickC])
      | ((with_reducible apply Vq.vabx); (· decide); exact rfl) | dsimp only [Vq.afterSeq]); (try simp only [z1, z2, z3, z4, z5, z6, z7, z8, z9, z10, z11, z12, z13, z14, z15, z16, z17, z18, V.withLeaves, V.borrow, freeze1, borrows, borrow1, V.leaves, V.nextg, Nat.reduceAdd, Nat.reduceSub, layTup, obj1, splice, Bool.false_eq_true, if_true, if_false, Bool.not_true, Bool.not_false, hlt])))
      dsimp only [afterSeq]
      (with_reducible apply Vq.vseq)
      · (with_reducible apply vblock)
        · (with_reducible apply Vq.vseq)
          · repeat' (((first
      | (with_reducible exact Vq.runOps_nil)
      | ((with_reducible apply Vq.runOps_cons); (first | exact rfl | ((try apply S6.vguard rfl); (first | apply S11.vshrT rfl rfl (Int.natCast_nonneg _) | apply S11.vshlT rfl rfl (Int.natCast_nonneg _) | apply S11.vshlV rfl (Int.natCast_nonneg _) | apply Vq.vidx rfl rfl (.inl rfl) (Int.natCast_nonneg _) (by assumption)); exact rfl)))
      | ((with_reducible first | apply Vq.vret | apply Vq.vskip | apply Vq.vexit | apply Vq.vab0 | apply Vq.vab1 | apply Vq.vabr); exact rfl)
      | ((with_reducible apply Vq.vregion); case hr => exact rfl)
      | (with_reducible first | apply Vq.vseq | apply Vq.vblock)
      | ((with_reducible apply Vq.vcond); exact rfl; dsimp only [Vq.pickC])
      | ((with_reducible apply Vq.vabx); (· decide); exact rfl) | dsimp only [Vq.afterSeq]); (try simp only [z1, z2, z3, z4, z5, z6, z7, z8, z9, z10, z11, z12, z13, z14, z15, z16, z17, z18, V.withLeaves, V.borrow, freeze1, borrows, borrow1, V.leaves, V.nextg, Nat.reduceAdd, Nat.reduceSub, layTup, obj1, splice, Bool.false_eq_true, if_true, if_false, Bool.not_true, Bool.not_false])))
          dsimp only [afterSeq]
          repeat' (((first
      | (with_reducible exact Vq.runOps_nil)
      | ((with_reducible apply Vq.runOps_cons); (first | exact rfl | ((try apply S6.vguard rfl); (first | apply S11.vshrT rfl rfl (Int.natCast_nonneg _) | apply S11.vshlT rfl rfl (Int.natCast_nonneg _) | apply S11.vshlV rfl (Int.natCast_nonneg _) | apply Vq.vidx rfl rfl (.inl rfl) (Int.natCast_nonneg _) (by assumption)); exact rfl)))
      | ((with_reducible first | apply Vq.vret | apply Vq.vskip | apply Vq.vexit | apply Vq.vab0 | apply Vq.vab1 | apply Vq.vabr); exact rfl)
      | ((with_reducible apply Vq.vregion); case hr => exact rfl)
      | (with_reducible first | apply Vq.vseq | apply Vq.vblock)
      | ((with_reducible apply Vq.vcond); exact rfl; dsimp only [Vq.pickC])
      | ((with_reducible apply Vq.vabx); (· decide); exact rfl) | dsimp only [Vq.afterSeq]); (try simp only [z1, z2, z3, z4, z5, z6, z7, z8, z9, z10, z11, z12, z13, z14, z15, z16, z17, z18, V.withLeaves, V.borrow, freeze1, borrows, borrow1, V.leaves, V.nextg, Nat.reduceAdd, Nat.reduceSub, layTup, obj1, splice, Bool.false_eq_true, if_true, if_false, Bool.not_true, Bool.not_false, hp, hp2, c1, c2, c3, c4])))
        repeat' (((first
      | (with_reducible exact Vq.runOps_nil)
      | ((with_reducible apply Vq.runOps_cons); (first | exact rfl | ((try apply S6.vguard rfl); (first | apply S11.vshrT rfl rfl (Int.natCast_nonneg _) | apply S11.vshlT rfl rfl (Int.natCast_nonneg _) | apply S11.vshlV rfl (Int.natCast_nonneg _) | apply Vq.vidx rfl rfl (.inl rfl) (Int.natCast_nonneg _) (by assumption)); exact rfl)))
      | ((with_reducible first | apply Vq.vret | apply Vq.vskip | apply Vq.vexit | apply Vq.vab0 | apply Vq.vab1 | apply Vq.vabr); exact rfl)
      | ((with_reducible apply Vq.vregion); case hr => exact rfl)
      | (with_reducible first | apply Vq.vseq | apply Vq.vblock)
      | ((with_reducible apply Vq.vcond); exact rfl; dsimp only [Vq.pickC])
      | ((with_reducible apply Vq.vabx); (· decide); exact rfl) | dsimp only [Vq.afterSeq]); (try simp only [z1, z2, z3, z4, z5, z6, z7, z8, z9, z10, z11, z12, z13, z14, z15, z16, z17, z18, V.withLeaves, V.borrow, freeze1, borrows, borrow1, V.leaves, V.nextg, Nat.reduceAdd, Nat.reduceSub, layTup, obj1, splice, Bool.false_eq_true, if_true, if_false, Bool.not_true, Bool.not_false])))
      dsimp only [afterSeq]
    · exact rfl
theorem bad5 (b1 b2 b3 b4 : Bool) (c1 : ((i : Int) == 9) = b1) (c2 : decide (((l[i] : Nat) : Int) > 1) = b2) (c3 : decide ((i : Int) > 0) = b3) (c4 : (((l[i] : Nat) : Int) == 0) = b4) (hb : (b1 = false ∧ b3 = false) ∨ (b1 = false ∧ b3 = true ∧ b4 = false) ∨ (b1 = true ∧ b2 = false ∧ b3 = true ∧ b4 = false)) (hshr : (lim : Int).fdiv (2 ^ min ((7 * i : Nat) : Int).toNat IntKind.u64.bits) = ((lim / 2 ^ (7 * i) : Nat) : Int)) (c5 : decide (((l[i] % 128 : Nat) : Int) > ((lim / 2 ^ (7 * i) : Nat) : Int)) = true) : Ret cal its again l lim n i (0) (-1) := by
  have hg := byN_get l i hi
  have hlt : decide ((i : Int) < ((byN l).length : Int)) = true := by rw [byN_len]; simp; omega
  have hp := and127 l[i] hx
  have hp2 : IntKind.u64.wrap ((l[i] % 128 : Nat) : Int) = ((l[i] % 128 : Nat) : Int) := wrap64 _ (by omega)
  have h7 : IntKind.i64.wrap (7 * (i : Int)) = ((7 * i : Nat) : Int) := wrap_i64 (7 * i) (by omega)
  have hadd := inc_i64 i (by omega)
  have h7' : IntKind.i64.wrap (7 * ((i + 1 : Nat) : Int)) = ((7 * (i + 1) : Nat) : Int) := wrap_i64 (7 * (i + 1)) (by omega)
  unfold Ret body52 st52
  rcases hb with ⟨rfl, rfl⟩ | ⟨rfl, rfl, rfl⟩ | ⟨rfl, rfl, rfl, rfl⟩
  all_goals
    apply vend
    · (with_reducible apply Vq.vseq)
      · repeat' (((first
      | (with_reducible exact Vq.runOps_nil)
      | ((with_reducible apply Vq.runOps_cons); (first | exact rfl | ((try apply S6.vguard rfl); (first | apply S11.vshrT rfl rfl (Int.natCast_nonneg _) | apply S11.vshlT rfl rfl (Int.natCast_nonneg _) | apply S11.vshlV rfl (Int.natCast_nonneg _) | apply Vq.vidx rfl rfl (.inl rfl) (Int.natCast_nonneg _) (by assumption)); exact rfl)))
      | ((with_reducible first | apply Vq.vret | apply Vq.vskip | apply Vq.vexit | apply Vq.vab0 | apply Vq.vab1 | apply Vq.vabr); exact rfl)
      | ((with_reducible apply Vq.vregion); case hr => exact rfl)
      | (with_reducible first | apply Vq.vseq | apply Vq.vblock)
      | ((with_reducible apply Vq.vcond); exact rfl; dsimp only [Vq.pickC])
      | ((with_reducible apply Vq.vabx); (· decide); exact rfl) | dsimp only [Vq.afterSeq]); (try simp only [z1, z2, z3, z4, z5, z6, z7, z8, z9, z10, z11, z12, z13, z14, z15, z16, z17, z18, V.withLeaves, V.borrow, freeze1, borrows, borrow1, V.leaves, V.nextg, Nat.reduceAdd, Nat.reduceSub, layTup, obj1, splice, Bool.false_eq_true, if_true, if_false, Bool.not_true, Bool.not_false, hlt])))
      dsimp only [afterSeq]
      (with_reducible apply Vq.vseq)
      · repeat' (((first
      | (with_reducible exact Vq.runOps_nil)
      | ((with_reducible apply Vq.runOps_cons); (first | exact rfl | ((try apply S6.vguard rfl); (first | apply S11.vshrT rfl rfl (Int.natCast_nonneg _) | apply S11.vshlT rfl rfl (Int.natCast_nonneg _) | apply S11.vshlV rfl (Int.natCast_nonneg _) | apply Vq.vidx rfl rfl (.inl rfl) (Int.natCast_nonneg _) (by assumption)); exact rfl)))
      | ((with_reducible first | apply Vq.vret | apply Vq.vskip | apply Vq.vexit | apply Vq.vab0 | apply Vq.vab1 | apply Vq.vabr); exact rfl)
      | ((with_reducible apply Vq.vregion); case hr => exact rfl)
      | (with_reducible first | apply Vq.vseq | apply Vq.vblock)
      | ((with_reducible apply Vq.vcond); exact rfl; dsimp only [Vq.pickC])
      | ((with_reducible apply Vq.vabx); (· decide); exact rfl) | dsimp only [Vq.afterSeq]); (try simp only [z1, z2, z3, z4, z5, z6, z7, z8, z9, z10, z11, z12, z13, z14, z15, z16, z17, z18, V.withLeaves, V.borrow, freeze1, borrows, borrow1, V.leaves, V.nextg, Nat.reduceAdd, Nat.reduceSub, layTup, obj1, splice, Bool.false_eq_true, if_true, if_false, Bool.not_true, Bool.not_false, hlt])))
      dsimp only [afterSeq]
      (with_reducible apply Vq.vseq)
      · (with_reducible apply vblock)
        · (with_reducible apply Vq.vseq)
          · repeat' (((first
      | (with_reducible exact Vq.runOps_nil)
      | ((with_reducible apply Vq.runOps_cons); (first | exact rfl | ((try apply S6.vguard rfl); (first | apply S11.vshrT rfl rfl (Int.natCast_nonneg _) | apply S11.vshlT rfl rfl (Int.natCast_nonneg _) | apply S11.vshlV rfl (Int.natCast_nonneg _) | apply Vq.vidx rfl rfl (.inl rfl) (Int.natCast_nonneg _) (by assumption)); exact rfl)))
      | ((with_reducible first | apply Vq.vret | apply Vq.vskip | apply Vq.vexit | apply Vq.vab0 | apply Vq.vab1 | apply Vq.vabr); exact rfl)
      | ((with_reducible apply Vq.vregion); case hr => exact rfl)
      | (with_reducible first | apply Vq.vseq | apply Vq.vblock)
      | ((with_reducible apply Vq.vcond); exact rfl; dsimp only [Vq.pickC])
      | ((with_reducible apply Vq.vabx); (· decide); exact rfl) | dsimp only [Vq.afterSeq]); (try simp only [z1, z2, z3, z4, z5, z6, z7, z8, z9, z10, z11, z12, z13, z14, z15, z16, z17, z18, V.withLeaves, V.borrow, freeze1, borrows, borrow1, V.leaves, V.nextg, Nat.reduceAdd, Nat.reduceSub, layTup, obj1, splice, Bool.false_eq_true, if_true, if_false, Bool.not_true, Bool.not_false])))
          dsimp only [afterSeq]
          repeat' (((first
      | (with_reducible exact Vq.runOps_nil)
      | ((with_reducible apply Vq.runOps_cons); (first | exact rfl | ((try apply S6.vguard rfl); (first | apply S11.vshrT rfl rfl (Int.natCast_nonneg _) | apply S11.vshlT rfl rfl (Int.natCast_nonneg _) | apply S11.vshlV rfl (Int.natCast_nonneg _) | apply Vq.vidx rfl rfl (.inl rfl) (Int.natCast_nonneg _) (by assumption)); exact rfl)))
      | ((with_reducible first | apply Vq.vret | apply Vq.vskip | apply Vq.vexit | apply Vq.vab0 | apply Vq.vab1 | apply Vq.vabr); exact rfl)
      | ((with_reducible apply Vq.vregion); case hr => exact rfl)
      | (with_reducible first | apply Vq.vseq | apply Vq.vblock)
      | ((with_reducible apply Vq.vcond); exact rfl; dsimp only [Vq.pickC])
      | ((with_reducible apply Vq.vabx); (· decide); exact rfl) | dsimp only [Vq.afterSeq]); (try simp only [z1, z2, z3, z4, z5, z6, z7, z8, z9, z10, z11, z12, z13, z14, z15, z16, z17, z18, V.withLeaves, V.borrow, freeze1, borrows, borrow1, V.leaves, V.nextg, Nat.reduceAdd, Nat.reduceSub, layTup, obj1, splice, Bool.false_eq_true, if_true, if_false, Bool.not_true, Bool.not_false, hp, hp2, c1, c2, c3, c4, h7, hshr, c5])))
        repeat' (((first
      | (with_reducible exact Vq.runOps_nil)
      | ((with_reducible apply Vq.runOps_cons); (first | exact rfl | ((try apply S6.vguard rfl); (first | apply S11.vshrT rfl rfl (Int.natCast_nonneg _) | apply S11.vshlT rfl rfl (Int.natCast_nonneg _) | apply S11.vshlV rfl (Int.natCast_nonneg _) | apply Vq.vidx rfl rfl (.inl rfl) (Int.natCast_nonneg _) (by assumption)); exact rfl)))
      | ((with_reducible first | apply Vq.vret | apply Vq.vskip | apply Vq.vexit | apply Vq.vab0 | apply Vq.vab1 | apply Vq.vabr); exact rfl)
      | ((with_reducible apply Vq.vregion); case hr => exact rfl)
      | (with_reducible first | apply Vq.vseq | apply Vq.vblock)
      | ((with_reducible apply Vq.vcond); exact rfl; dsimp only [Vq.pickC])
      | ((with_reducible apply Vq.vabx); (· decide); exact rfl) | dsimp only [Vq.afterSeq]); (try simp only [z1, z2, z3, z4, z5, z6, z7, z8, z9, z10, z11, z12, z13, z14, z15, z16, z17, z18, V.withLeaves, V.borrow, freeze1, borrows, borrow1, V.leaves, V.nextg, Nat.reduceAdd, Nat.reduceSub, layTup, obj1, splice, Bool.false_eq_true, if_true, if_false, Bool.not_true, Bool.not_false])))
      dsimp only [afterSeq]
    · exact rfl
theorem bad6 (b1 b2 b3 b4 : Bool) (c1 : ((i : Int) == 9) = b1) (c2 : decide (((l[i] : Nat) : Int) > 1) = b2) (c3 : decide ((i : Int) > 0) = b3) (c4 : (((l[i] : Nat) : Int) == 0) = b4) (hb : (b1 = false ∧ b3 = false) ∨ (b1 = false ∧ b3 = true ∧ b4 = false) ∨ (b1 = true ∧ b2 = false ∧ b3 = true ∧ b4 = false)) (hshr : (lim : Int).fdiv (2 ^ min ((7 * i : Nat) : Int).toNat IntKind.u64.bits) = ((lim / 2 ^ (7 * i) : Nat) : Int)) (c5 : decide (((l[i] % 128 : Nat) : Int) > ((lim / 2 ^ (7 * i) : Nat) : Int)) = false) (v : Nat) (hshl : IntKind.u64.wrap (((l[i] % 128 : Nat) : Int) * 2 ^ min ((7 * i : Nat) : Int).toNat IntKind.u64.bits) = ((l[i] % 128 * 2 ^ (7 * i) : Nat) : Int)) (hor : IntKind.u64.wrap (BitVec.ofInt IntKind.u64.bits (n : Int) ||| BitVec.ofInt IntKind.u64.bits ((l[i] % 128 * 2 ^ (7 * i) : Nat) : Int)).toNat = ((v : Nat) : Int)) (c6 : decide (((v : Nat) : Int) > (lim : Int)) = true) : Ret cal its again l lim n i (0) (-1) := by
  have hg := byN_get l i hi
  have hlt : decide ((i : Int) < ((byN l).length : Int)) = true := by rw [byN_len]; simp; omega
  have hp := and127 l[i] hx
  have hp2 : IntKind.u64.wrap ((l[i] % 128 : Nat) : Int) = ((l[i] % 128 : Nat) : Int) := wrap64 _ (by omega)
  have h7 : IntKind.i64.wrap (7 * (i : Int)) = ((7 * i : Nat) : Int) := wrap_i64 (7 * i) (by omega)
  have hadd := inc_i64 i (by omega)
  have h7' : IntKind.i64.wrap (7 * ((i + 1 : Nat) : Int)) = ((7 * (i + 1) : Nat) : Int) := wrap_i64 (7 * (i + 1)) (by omega)
  unfold Ret body52 st52
  rcases hb with ⟨rfl, rfl⟩ | ⟨rfl, rfl, rfl⟩ | ⟨rfl, rfl, rfl, rfl⟩
  all_goals
    apply vend
    · (with_reducible apply Vq.vseq)
      · repeat' (((first
      | (with_reducible exact Vq.runOps_nil)
      | ((with_reducible apply Vq.runOps_cons); (first | exact rfl | ((try apply S6.vguard rfl); (first | apply S11.vshrT rfl rfl (Int.natCast_nonneg _) | apply S11.vshlT rfl rfl (Int.natCast_nonneg _) | apply S11.vshlV rfl (Int.natCast_nonneg _) | apply Vq.vidx rfl rfl (.inl rfl) (Int.natCast_nonneg _) (by assumption)); exact rfl)))
      | ((with_reducible first | apply Vq.vret | apply Vq.vskip | apply Vq.vexit | apply Vq.vab0 | apply Vq.vab1 | apply Vq.vabr); exact rfl)
      | ((with_reducible apply Vq.vregion); case hr => exact rfl)
      | (with_reducible first | apply Vq.vseq | apply Vq.vblock)
      | ((with_reducible apply Vq.vcond); exact rfl; dsimp only [Vq.pickC])
      | ((with_reducible apply Vq.vabx); (· decide); exact rfl) | dsimp only [Vq.afterSeq]); (try simp only [z1, z2, z3, z4, z5, z6, z7, z8, z9, z10, z11, z12, z13, z14, z15, z16, z17, z18, V.withLeaves, V.borrow, freeze1, borrows, borrow1, V.leaves, V.nextg, Nat.reduceAdd, Nat.reduceSub, layTup, obj1, splice, Bool.false_eq_true, if_true, if_false, Bool.not_true, Bool.not_false, hlt])))
      dsimp only [afterSeq]
      (with_reducible apply Vq.vseq)
      · repeat' (((first
      | (with_reducible exact Vq.runOps_nil)
      | ((with_reducible apply Vq.runOps_cons); (first | exact rfl | ((try apply S6.vguard rfl); (first | apply S11.vshrT rfl rfl (Int.natCast_nonneg _) | apply S11.vshlT rfl rfl (Int.natCast_nonneg _) | apply S11.vshlV rfl (Int.natCast_nonneg _) | apply Vq.vidx rfl rfl (.inl rfl) (Int.natCast_nonneg _) (by assumption)); exact rfl)))
      | ((with_reducible first | apply Vq.vret | apply Vq.vskip | apply Vq.vexit | apply Vq.vab0 | apply Vq.vab1 | apply Vq.vabr); exact rfl)
      | ((with_reducible apply Vq.vregion); case hr => exact rfl)
      | (with_reducible first | apply Vq.vseq | apply Vq.vblock)
      | ((with_reducible apply Vq.vcond); exact rfl; dsimp only [Vq.pickC])
      | ((with_reducible apply Vq.vabx); (· decide); exact rfl) | dsimp only [Vq.afterSeq]); (try simp only [z1, z2, z3, z4, z5, z6, z7, z8, z9, z10, z11, z12, z13, z14, z15, z16, z17, z18, V.withLeaves, V.borrow, freeze1, borrows, borrow1, V.leaves, V.nextg, Nat.reduceAdd, Nat.reduceSub, layTup, obj1, splice, Bool.false_eq_true, if_true, if_false, Bool.not_true, Bool.not_false, hlt])))
      dsimp only [afterSeq]
      (with_reducible apply Vq.vseq)
      · (with_reducible apply vblock)
        · (with_reducible apply Vq.vseq)
          · repeat' (((first
      | (with_reducible exact Vq.runOps_nil)
      | ((with_reducible apply Vq.runOps_cons); (first | exact rfl | ((try apply S6.vguard rfl); (first | apply S11.vshrT rfl rfl (Int.natCast_nonneg _) | apply S11.vshlT rfl rfl (Int.natCast_nonneg _) | apply S11.vshlV rfl (Int.natCast_nonneg _) | apply Vq.vidx rfl rfl (.inl rfl) (Int.natCast_nonneg _) (by assumption)); exact rfl)))
      | ((with_reducible first | apply Vq.vret | apply Vq.vskip | apply Vq.vexit | apply Vq.vab0 | apply Vq.vab1 | apply Vq.vabr); exact rfl)
      | ((with_reducible apply Vq.vregion); case hr => exact rfl)
      | (with_reducible first | apply Vq.vseq | apply Vq.vblock)
      | ((with_reducible apply Vq.vcond); exact rfl; dsimp only [Vq.pickC])
      | ((with_reducible apply Vq.vabx); (· decide); exact rfl) | dsimp only [Vq.afterSeq]); (try simp only [z1, z2, z3, z4, z5, z6, z7, z8, z9, z10, z11, z12, z13, z14, z15, z16, z17, z18, V.withLeaves, V.borrow, freeze1, borrows, borrow1, V.leaves, V.nextg, Nat.reduceAdd, Nat.reduceSub, layTup, obj1, splice, Bool.false_eq_true, if_true, if_false, Bool.not_true, Bool.not_false])))
          dsimp only [afterSeq]
          repeat' (((first
      | (with_reducible exact Vq.runOps_nil)
      | ((with_reducible apply Vq.runOps_cons); (first | exact rfl | ((try apply S6.vguard rfl); (first | apply S11.vshrT rfl rfl (Int.natCast_nonneg _) | apply S11.vshlT rfl rfl (Int.natCast_nonneg _) | apply S11.vshlV rfl (Int.natCast_nonneg _) | apply Vq.vidx rfl rfl (.inl rfl) (Int.natCast_nonneg _) (by assumption)); exact rfl)))
      | ((with_reducible first | apply Vq.vret | apply Vq.vskip | apply Vq.vexit | apply Vq.vab0 | apply Vq.vab1 | apply Vq.vabr); exact rfl)
      | ((with_reducible apply Vq.vregion); case hr => exact rfl)
      | (with_reducible first | apply Vq.vseq | apply Vq.vblock)
      | ((with_reducible apply Vq.vcond); exact rfl; dsimp only [Vq.pickC])
      | ((with_reducible apply Vq.vabx); (· decide); exact rfl) | dsimp only [Vq.afterSeq]); (try simp only [z1, z2, z3, z4, z5, z6, z7, z8, z9, z10, z11, z12, z13, z14, z15, z16, z17, z18, V.withLeaves, V.borrow, freeze1, borrows, borrow1, V.leaves, V.nextg, Nat.reduceAdd, Nat.reduceSub, layTup, obj1, splice, Bool.false_eq_true, if_true, if_false, Bool.not_true, Bool.not_false, hp, hp2, c1, c2, c3, c4, h7, hshr, c5, hshl, hor, c6])))
        repeat' (((first
      | (with_reducible exact Vq.runOps_nil)
      | ((with_reducible apply Vq.runOps_cons); (first | exact rfl | ((try apply S6.vguard rfl); (first | apply S11.vshrT rfl rfl (Int.natCast_nonneg _) | apply S11.vshlT rfl rfl (Int.natCast_nonneg _) | apply S11.vshlV rfl (Int.natCast_nonneg _) | apply Vq.vidx rfl rfl (.inl rfl) (Int.natCast_nonneg _) (by assumption)); exact rfl)))
      | ((with_reducible first | apply Vq.vret | apply Vq.vskip | apply Vq.vexit | apply Vq.vab0 | apply Vq.vab1 | apply Vq.vabr); exact rfl)
      | ((with_reducible apply Vq.vregion); case hr => exact rfl)
      | (with_reducible first | apply Vq.vseq | apply Vq.vblock)
      | ((with_reducible apply Vq.vcond); exact rfl; dsimp only [Vq.pickC])
      | ((with_reducible apply Vq.vabx); (· decide); exact rfl) | dsimp only [Vq.afterSeq]); (try simp only [z1, z2, z3, z4, z5, z6, z7, z8, z9, z10, z11, z12, z13, z14, z15, z16, z17, z18, V.withLeaves, V.borrow, freeze1, borrows, borrow1, V.leaves, V.nextg, Nat.reduceAdd, Nat.reduceSub, layTup, obj1, splice, Bool.false_eq_true, if_true, if_false, Bool.not_true, Bool.not_false])))
      dsimp only [afterSeq]
    · exact rfl
theorem val7 (b1 b2 b3 b4 : Bool) (c1 : ((i : Int) == 9) = b1) (c2 : decide (((l[i] : Nat) : Int) > 1) = b2) (c3 : decide ((i : Int) > 0) = b3) (c4 : (((l[i] : Nat) : Int) == 0) = b4) (hb : (b1 = false ∧ b3 = false) ∨ (b1 = false ∧ b3 = true ∧ b4 = false) ∨ (b1 = true ∧ b2 = false ∧ b3 = true ∧ b4 = false)) (hshr : (lim : Int).fdiv (2 ^ min ((7 * i : Nat) : Int).toNat IntKind.u64.bits) = ((lim / 2 ^ (7 * i) : Nat) : Int)) (c5 : decide (((l[i] % 128 : Nat) : Int) > ((lim / 2 ^ (7 * i) : Nat) : Int)) = false) (v : Nat) (hshl : IntKind.u64.wrap (((l[i] % 128 : Nat) : Int) * 2 ^ min ((7 * i : Nat) : Int).toNat IntKind.u64.bits) = ((l[i] % 128 * 2 ^ (7 * i) : Nat) : Int)) (hor : IntKind.u64.wrap (BitVec.ofInt IntKind.u64.bits (n : Int) ||| BitVec.ofInt IntKind.u64.bits ((l[i] % 128 * 2 ^ (7 * i) : Nat) : Int)).toNat = ((v : Nat) : Int)) (c6 : decide (((v : Nat) : Int) > (lim : Int)) = false) (c7 : decide (((l[i] : Nat) : Int) < 128) = true) : Ret cal its again l lim n i ((v : Nat)) ((i + 1 : Nat)) := by
  have hg := byN_get l i hi
  have hlt : decide ((i : Int) < ((byN l).length : Int)) = true := by rw [byN_len]; simp; omega
  have hp := and127 l[i] hx
  have hp2 : IntKind.u64.wrap ((l[i] % 128 : Nat) : Int) = ((l[i] % 128 : Nat) : Int) := wrap64 _ (by omega)
  have h7 : IntKind.i64.wrap (7 * (i : Int)) = ((7 * i : Nat) : Int) := wrap_i64 (7 * i) (by omega)
  have hadd := inc_i64 i (by omega)
  have h7' : IntKind.i64.wrap (7 * ((i + 1 : Nat) : Int)) = ((7 * (i + 1) : Nat) : Int) := wrap_i64 (7 * (i + 1)) (by omega)
  unfold Ret body52 st52
  rcases hb with ⟨rfl, rfl⟩ | ⟨rfl, rfl, rfl⟩ | ⟨rfl, rfl, rfl, rfl⟩
  all_goals
    apply vend
    · (with_reducible apply Vq.vseq)
      · repeat' (((first
      | (with_reducible exact Vq.runOps_nil)
      | ((with_reducible apply Vq.runOps_cons); (first | exact rfl | ((try apply S6.vguard rfl); (first | apply S11.vshrT rfl rfl (Int.natCast_nonneg _) | apply S11.vshlT rfl rfl (Int.natCast_nonneg _) | apply S11.vshlV rfl (Int.natCast_nonneg _) | apply Vq.vidx rfl rfl (.inl rfl) (Int.natCast_nonneg _) (by assumption)); exact rfl)))
      | ((with_reducible first | apply Vq.vret | apply Vq.vskip | apply Vq.vexit | apply Vq.vab0 | apply Vq.vab1 | apply Vq.vabr); exact rfl)
      | ((with_reducible apply Vq.vregion); case hr => exact rfl)
      | (with_reducible first | apply Vq.vseq | apply Vq.vblock)
      | ((with_reducible apply Vq.vcond); exact rfl; dsimp only [Vq.pickC])
      | ((with_reducible apply Vq.vabx); (· decide); exact rfl) | dsimp only [Vq.afterSeq]); (try simp only [z1, z2, z3, z4, z5, z6, z7, z8, z9, z10, z11, z12, z13, z14, z15, z16, z17, z18, V.withLeaves, V.borrow, freeze1, borrows, borrow1, V.leaves, V.nextg, Nat.reduceAdd, Nat.reduceSub, layTup, obj1, splice, Bool.false_eq_true, if_true, if_false, Bool.not_true, Bool.not_false, hlt])))
      dsimp only [afterSeq]
      (with_reducible apply Vq.vseq)
      · repeat' (((first
      | (with_reducible exact Vq.runOps_nil)
      | ((with_reducible apply Vq.runOps_cons); (first | exact rfl | ((try apply S6.vguard rfl); (first | apply S11.vshrT rfl rfl (Int.natCast_nonneg _) | apply S11.vshlT rfl rfl (Int.natCast_nonneg _) | apply S11.vshlV rfl (Int.natCast_nonneg _) | apply Vq.vidx rfl rfl (.inl rfl) (Int.natCast_nonneg _) (by assumption)); exact rfl)))
      | ((with_reducible first | apply Vq.vret | apply Vq.vskip | apply Vq.vexit | apply Vq.vab0 | apply Vq.vab1 | apply Vq.vabr); exact rfl)
      | ((with_reducible apply Vq.vregion); case hr => exact rfl)
      | (with_reducible first | apply Vq.vseq | apply Vq.vblock)
      | ((with_reducible apply Vq.vcond); exact rfl; dsimp only [Vq.pickC])
      | ((with_reducible apply Vq.vabx); (· decide); exact rfl) | dsimp only [Vq.afterSeq]); (try simp only [z1, z2, z3, z4, z5, z6, z7, z8, z9, z10, z11, z12, z13, z14, z15, z16, z17, z18, V.withLeaves, V.borrow, freeze1, borrows, borrow1, V.leaves, V.nextg, Nat.reduceAdd, Nat.reduceSub, layTup, obj1, splice, Bool.false_eq_true, if_true, if_false, Bool.not_true, Bool.not_false, hlt])))
      dsimp only [afterSeq]
      (with_reducible apply Vq.vseq)
      · (with_reducible apply vblock)
        · (with_reducible apply Vq.vseq)
          · repeat' (((first
      | (with_reducible exact Vq.runOps_nil)
      | ((with_reducible apply Vq.runOps_cons); (first | exact rfl | ((try apply S6.vguard rfl); (first | apply S11.vshrT rfl rfl (Int.natCast_nonneg _) | apply S11.vshlT rfl rfl (Int.natCast_nonneg _) | apply S11.vshlV rfl (Int.natCast_nonneg _) | apply Vq.vidx rfl rfl (.inl rfl) (Int.natCast_nonneg _) (by assumption)); exact rfl)))
      | ((with_reducible first | apply Vq.vret | apply Vq.vskip | apply Vq.vexit | apply Vq.vab0 | apply Vq.vab1 | apply Vq.vabr); exact rfl)
      | ((with_reducible apply Vq.vregion); case hr => exact rfl)
      | (with_reducible first | apply Vq.vseq | apply Vq.vblock)
      | ((with_reducible apply Vq.vcond); exact rfl; dsimp only [Vq.pickC])
      | ((with_reducible apply Vq.vabx); (· decide); exact rfl) | dsimp only [Vq.afterSeq]); (try simp only [z1, z2, z3, z4, z5, z6, z7, z8, z9, z10, z11, z12, z13, z14, z15, z16, z17, z18, V.withLeaves, V.borrow, freeze1, borrows, borrow1, V.leaves, V.nextg, Nat.reduceAdd, Nat.reduceSub, layTup, obj1, splice, Bool.false_eq_true, if_true, if_false, Bool.not_true, Bool.not_false])))
          dsimp only [afterSeq]
          repeat' (((first
      | (with_reducible exact Vq.runOps_nil)
      | ((with_reducible apply Vq.runOps_cons); (first | exact rfl | ((try apply S6.vguard rfl); (first | apply S11.vshrT rfl rfl (Int.natCast_nonneg _) | apply S11.vshlT rfl rfl (Int.natCast_nonneg _) | apply S11.vshlV rfl (Int.natCast_nonneg _) | apply Vq.vidx rfl rfl (.inl rfl) (Int.natCast_nonneg _) (by assumption)); exact rfl)))
      | ((with_reducible first | apply Vq.vret | apply Vq.vskip | apply Vq.vexit | apply Vq.vab0 | apply Vq.vab1 | apply Vq.vabr); exact rfl)
      | ((with_reducible apply Vq.vregion); case hr => exact rfl)
      | (with_reducible first | apply Vq.vseq | apply Vq.vblock)
      | ((with_reducible apply Vq.vcond); exact rfl; dsimp only [Vq.pickC])
      | ((with_reducible apply Vq.vabx); (· decide); exact rfl) | dsimp only [Vq.afterSeq]); (try simp only [z1, z2, z3, z4, z5, z6, z7, z8, z9, z10, z11, z12, z13, z14, z15, z16, z17, z18, V.withLeaves, V.borrow, freeze1, borrows, borrow1, V.leaves, V.nextg, Nat.reduceAdd, Nat.reduceSub, layTup, obj1, splice, Bool.false_eq_true, if_true, if_false, Bool.not_true, Bool.not_false, hp, hp2, c1, c2, c3, c4, h7, hshr, c5, hshl, hor, c6, c7, hadd])))
        repeat' (((first
      | (with_reducible exact Vq.runOps_nil)
      | ((with_reducible apply Vq.runOps_cons); (first | exact rfl | ((try apply S6.vguard rfl); (first | apply S11.vshrT rfl rfl (Int.natCast_nonneg _) | apply S11.vshlT rfl rfl (Int.natCast_nonneg _) | apply S11.vshlV rfl (Int.natCast_nonneg _) | apply Vq.vidx rfl rfl (.inl rfl) (Int.natCast_nonneg _) (by assumption)); exact rfl)))
      | ((with_reducible first | apply Vq.vret | apply Vq.vskip | apply Vq.vexit | apply Vq.vab0 | apply Vq.vab1 | apply Vq.vabr); exact rfl)
      | ((with_reducible apply Vq.vregion); case hr => exact rfl)
      | (with_reducible first | apply Vq.vseq | apply Vq.vblock)
      | ((with_reducible apply Vq.vcond); exact rfl; dsimp only [Vq.pickC])
      | ((with_reducible apply Vq.vabx); (· decide); exact rfl) | dsimp only [Vq.afterSeq]); (try simp only [z1, z2, z3, z4, z5, z6, z7, z8, z9, z10, z11, z12, z13, z14, z15, z16, z17, z18, V.withLeaves, V.borrow, freeze1, borrows, borrow1, V.leaves, V.nextg, Nat.reduceAdd, Nat.reduceSub, layTup, obj1, splice, Bool.false_eq_true, if_true, if_false, Bool.not_true, Bool.not_false])))
      dsimp only [afterSeq]
    · exact rfl
theorem bad8 (b1 b2 b3 b4 : Bool) (c1 : ((i : Int) == 9) = b1) (c2 : decide (((l[i] : Nat) : Int) > 1) = b2) (c3 : decide ((i : Int) > 0) = b3) (c4 : (((l[i] : Nat) : Int) == 0) = b4) (hb : (b1 = false ∧ b3 = false) ∨ (b1 = false ∧ b3 = true ∧ b4 = false) ∨ (b1 = true ∧ b2 = false ∧ b3 = true ∧ b4 = false)) (hshr : (lim : Int).fdiv (2 ^ min ((7 * i : Nat) : Int).toNat IntKind.u64.bits) = ((lim / 2 ^ (7 * i) : Nat) : Int)) (c5 : decide (((l[i] % 128 : Nat) : Int) > ((lim / 2 ^ (7 * i) : Nat) : Int)) = false) (v : Nat) (hshl : IntKind.u64.wrap (((l[i] % 128 : Nat) : Int) * 2 ^ min ((7 * i : Nat) : Int).toNat IntKind.u64.bits) = ((l[i] % 128 * 2 ^ (7 * i) : Nat) : Int)) (hor : IntKind.u64.wrap (BitVec.ofInt IntKind.u64.bits (n : Int) ||| BitVec.ofInt IntKind.u64.bits ((l[i] % 128 * 2 ^ (7 * i) : Nat) : Int)).toNat = ((v : Nat) : Int)) (c6 : decide (((v : Nat) : Int) > (lim : Int)) = false) (c7 : decide (((l[i] : Nat) : Int) < 128) = false) (hsub : IntKind.u64.wrap ((lim : Int) - ((v : Nat) : Int)) = ((lim - v : Nat) : Int)) (hs1 : IntKind.u64.wrap (1 * 2 ^ min ((7 * (i + 1) : Nat) : Int).toNat IntKind.u64.bits) = ((2 ^ (7 * (i + 1)) : Nat) : Int)) (c8 : decide (((lim - v : Nat) : Int) < ((2 ^ (7 * (i + 1)) : Nat) : Int)) = true) : Ret cal its again l lim n i (0) (-1) := by
  have hg := byN_get l i hi
  have hlt : decide ((i : Int) < ((byN l).length : Int)) = true := by rw [byN_len]; simp; omega
  have hp := and127 l[i] hx
  have hp2 : IntKind.u64.wrap ((l[i] % 128 : Nat) : Int) = ((l[i] % 128 : Nat) : Int) := wrap64 _ (by omega)
  have h7 : IntKind.i64.wrap (7 * (i : Int)) = ((7 * i : Nat) : Int) := wrap_i64 (7 * i) (by omega)
  have hadd := inc_i64 i (by omega)
  have h7' : IntKind.i64.wrap (7 * ((i + 1 : Nat) : Int)) = ((7 * (i + 1) : Nat) : Int) := wrap_i64 (7 * (i + 1)) (by omega)
  unfold Ret body52 st52
  rcases hb with ⟨rfl, rfl⟩ | ⟨rfl, rfl, rfl⟩ | ⟨rfl, rfl, rfl, rfl⟩
  all_goals
    apply vend
    · (with_reducible apply Vq.vseq)
      · repeat' (((first
      | (with_reducible exact Vq.runOps_nil)
      | ((with_reducible apply Vq.runOps_cons); (first | exact rfl | ((try apply S6.vguard rfl); (first | apply S11.vshrT rfl rfl (Int.natCast_nonneg _) | apply S11.vshlT rfl rfl (Int.natCast_nonneg _) | apply S11.vshlV rfl (Int.natCast_nonneg _) | apply Vq.vidx rfl rfl (.inl rfl) (Int.natCast_nonneg _) (by assumption)); exact rfl)))
      | ((with_reducible first | apply Vq.vret | apply Vq.vskip | apply Vq.vexit | apply Vq.vab0 | apply Vq.vab1 | apply Vq.vabr); exact rfl)
      | ((with_reducible apply Vq.vregion); case hr => exact rfl)
      | (with_reducible first | apply Vq.vseq | apply Vq.vblock)
      | ((with_reducible apply Vq.vcond); exact rfl; dsimp only [Vq.pickC])
      | ((with_reducible apply Vq.vabx); (· decide); exact rfl) | dsimp only [Vq.afterSeq]); (try simp only [z1, z2, z3, z4, z5, z6, z7, z8, z9, z10, z11, z12, z13, z14, z15, z16, z17, z18, V.withLeaves, V.borrow, freeze1, borrows, borrow1, V.leaves, V.nextg, Nat.reduceAdd, Nat.reduceSub, layTup, obj1, splice, Bool.false_eq_true, if_true, if_false, Bool.not_true, Bool.not_false, hlt])))
      dsimp only [afterSeq]
      (with_reducible apply Vq.vseq)
      · repeat' (((first
      | (with_reducible exact Vq.runOps_nil)
      | ((with_reducible apply Vq.runOps_cons); (first | exact rfl | ((try apply S6.vguard rfl); (first | apply S11.vshrT rfl rfl (Int.natCast_nonneg _) | apply S11.vshlT rfl rfl (Int.natCast_nonneg _) | apply S11.vshlV rfl (Int.natCast_nonneg _) | apply Vq.vidx rfl rfl (.inl rfl) (Int.natCast_nonneg _) (by assumption)); exact rfl)))
      | ((with_reducible first | apply Vq.vret | apply Vq.vskip | apply Vq.vexit | apply Vq.vab0 | apply Vq.vab1 | apply Vq.vabr); exact rfl)
      | ((with_reducible apply Vq.vregion); case hr => exact rfl)
      | (with_reducible first | apply Vq.vseq | apply Vq.vblock)
      | ((with_reducible apply Vq.vcond); exact rfl; dsimp only [Vq.pickC])
      | ((with_reducible apply Vq.vabx); (· decide); exact rfl) | dsimp only [Vq.afterSeq]); (try simp only [z1, z2, z3, z4, z5, z6, z7, z8, z9, z10, z11, z12, z13, z14, z15, z16, z17, z18, V.withLeaves, V.borrow, freeze1, borrows, borrow1, V.leaves, V.nextg, Nat.reduceAdd, Nat.reduceSub, layTup, obj1, splice, Bool.false_eq_true, if_true, if_false, Bool.not_true, Bool.not_false, hlt])))
      dsimp only [afterSeq]
      (with_reducible apply Vq.vseq)
      · (with_reducible apply vblock)
        · (with_reducible apply Vq.vseq)
          · repeat' (((first
      | (with_reducible exact Vq.runOps_nil)
      | ((with_reducible apply Vq.runOps_cons); (first | exact rfl | ((try apply S6.vguard rfl); (first | apply S11.vshrT rfl rfl (Int.natCast_nonneg _) | apply S11.vshlT rfl rfl (Int.natCast_nonneg _) | apply S11.vshlV rfl (Int.natCast_nonneg _) | apply Vq.vidx rfl rfl (.inl rfl) (Int.natCast_nonneg _) (by assumption)); exact rfl)))
      | ((with_reducible first | apply Vq.vret | apply Vq.vskip | apply Vq.vexit | apply Vq.vab0 | apply Vq.vab1 | apply Vq.vabr); exact rfl)
      | ((with_reducible apply Vq.vregion); case hr => exact rfl)
      | (with_reducible first | apply Vq.vseq | apply Vq.vblock)
      | ((with_reducible apply Vq.vcond); exact rfl; dsimp only [Vq.pickC])
      | ((with_reducible apply Vq.vabx); (· decide); exact rfl) | dsimp only [Vq.afterSeq]); (try simp only [z1, z2, z3, z4, z5, z6, z7, z8, z9, z10, z11, z12, z13, z14, z15, z16, z17, z18, V.withLeaves, V.borrow, freeze1, borrows, borrow1, V.leaves, V.nextg, Nat.reduceAdd, Nat.reduceSub, layTup, obj1, splice, Bool.false_eq_true, if_true, if_false, Bool.not_true, Bool.not_false])))
          dsimp only [afterSeq]
          repeat' (((first
      | (with_reducible exact Vq.runOps_nil)
      | ((with_reducible apply Vq.runOps_cons); (first | exact rfl | ((try apply S6.vguard rfl); (first | apply S11.vshrT rfl rfl (Int.natCast_nonneg _) | apply S11.vshlT rfl rfl (Int.natCast_nonneg _) | apply S11.vshlV rfl (Int.natCast_nonneg _) | apply Vq.vidx rfl rfl (.inl rfl) (Int.natCast_nonneg _) (by assumption)); exact rfl)))
      | ((with_reducible first | apply Vq.vret | apply Vq.vskip | apply Vq.vexit | apply Vq.vab0 | apply Vq.vab1 | apply Vq.vabr); exact rfl)
      | ((with_reducible apply Vq.vregion); case hr => exact rfl)
      | (with_reducible first | apply Vq.vseq | apply Vq.vblock)
      | ((with_reducible apply Vq.vcond); exact rfl; dsimp only [Vq.pickC])
      | ((with_reducible apply Vq.vabx); (· decide); exact rfl) | dsimp only [Vq.afterSeq]); (try simp only [z1, z2, z3, z4, z5, z6, z7, z8, z9, z10, z11, z12, z13, z14, z15, z16, z17, z18, V.withLeaves, V.borrow, freeze1, borrows, borrow1, V.leaves, V.nextg, Nat.reduceAdd, Nat.reduceSub, layTup, obj1, splice, Bool.false_eq_true, if_true, if_false, Bool.not_true, Bool.not_false, hp, hp2, c1, c2, c3, c4, h7, hshr, c5, hshl, hor, c6, c7, hadd, hsub, h7', hs1, c8])))
        repeat' (((first
      | (with_reducible exact Vq.runOps_nil)
      | ((with_reducible apply Vq.runOps_cons); (first | exact rfl | ((try apply S6.vguard rfl); (first | apply S11.vshrT rfl rfl (Int.natCast_nonneg _) | apply S11.vshlT rfl rfl (Int.natCast_nonneg _) | apply S11.vshlV rfl (Int.natCast_nonneg _) | apply Vq.vidx rfl rfl (.inl rfl) (Int.natCast_nonneg _) (by assumption)); exact rfl)))
      | ((with_reducible first | apply Vq.vret | apply Vq.vskip | apply Vq.vexit | apply Vq.vab0 | apply Vq.vab1 | apply Vq.vabr); exact rfl)
      | ((with_reducible apply Vq.vregion); case hr => exact rfl)
      | (with_reducible first | apply Vq.vseq | apply Vq.vblock)
      | ((with_reducible apply Vq.vcond); exact rfl; dsimp only [Vq.pickC])
      | ((with_reducible apply Vq.vabx); (· decide); exact rfl) | dsimp only [Vq.afterSeq]); (try simp only [z1, z2, z3, z4, z5, z6, z7, z8, z9, z10, z11, z12, z13, z14, z15, z16, z17, z18, V.withLeaves, V.borrow, freeze1, borrows, borrow1, V.leaves, V.nextg, Nat.reduceAdd, Nat.reduceSub, layTup, obj1, splice, Bool.false_eq_true, if_true, if_false, Bool.not_true, Bool.not_false])))
      dsimp only [afterSeq]
    · exact rfl
theorem next8 (b1 b2 b3 b4 : Bool) (c1 : ((i : Int) == 9) = b1) (c2 : decide (((l[i] : Nat) : Int) > 1) = b2) (c3 : decide ((i : Int) > 0) = b3) (c4 : (((l[i] : Nat) : Int) == 0) = b4) (hb : (b1 = false ∧ b3 = false) ∨ (b1 = false ∧ b3 = true ∧ b4 = false) ∨ (b1 = true ∧ b2 = false ∧ b3 = true ∧ b4 = false)) (hshr : (lim : Int).fdiv (2 ^ min ((7 * i : Nat) : Int).toNat IntKind.u64.bits) = ((lim / 2 ^ (7 * i) : Nat) : Int)) (c5 : decide (((l[i] % 128 : Nat) : Int) > ((lim / 2 ^ (7 * i) : Nat) : Int)) = false) (v : Nat) (hshl : IntKind.u64.wrap (((l[i] % 128 : Nat) : Int) * 2 ^ min ((7 * i : Nat) : Int).toNat IntKind.u64.bits) = ((l[i] % 128 * 2 ^ (7 * i) : Nat) : Int)) (hor : IntKind.u64.wrap (BitVec.ofInt IntKind.u64.bits (n : Int) ||| BitVec.ofInt IntKind.u64.bits ((l[i] % 128 * 2 ^ (7 * i) : Nat) : Int)).toNat = ((v : Nat) : Int)) (c6 : decide (((v : Nat) : Int) > (lim : Int)) = false) (c7 : decide (((l[i] : Nat) : Int) < 128) = false) (hsub : IntKind.u64.wrap ((lim : Int) - ((v : Nat) : Int)) = ((lim - v : Nat) : Int)) (hs1 : IntKind.u64.wrap (1 * 2 ^ min ((7 * (i + 1) : Nat) : Int).toNat IntKind.u64.bits) = ((2 ^ (7 * (i + 1)) : Nat) : Int)) (c8 : decide (((lim - v : Nat) : Int) < ((2 ^ (7 * (i + 1)) : Nat) : Int)) = false) :
    ∃ s, step cal its again 0 body52 (st52 l lim n i) = some (.normal, s) ∧ rebase? (some [0, 1, 6, 10, 11, 12]) 0 s = st52 l lim v (i + 1) := by
  have hg := byN_get l i hi
  have hlt : decide ((i : Int) < ((byN l).length : Int)) = true := by rw [byN_len]; simp; omega
  have hp := and127 l[i] hx
  have hp2 : IntKind.u64.wrap ((l[i] % 128 : Nat) : Int) = ((l[i] % 128 : Nat) : Int) := wrap64 _ (by omega)
  have h7 : IntKind.i64.wrap (7 * (i : Int)) = ((7 * i : Nat) : Int) := wrap_i64 (7 * i) (by omega)
  have hadd := inc_i64 i (by omega)
  have h7' : IntKind.i64.wrap (7 * ((i + 1 : Nat) : Int)) = ((7 * (i + 1) : Nat) : Int) := wrap_i64 (7 * (i + 1)) (by omega)
  unfold body52 st52
  rcases hb with ⟨rfl, rfl⟩ | ⟨rfl, rfl, rfl⟩ | ⟨rfl, rfl, rfl, rfl⟩
  all_goals
    apply vround
    · (with_reducible apply Vq.vseq)
      · repeat' (((first
      | (with_reducible exact Vq.runOps_nil)
      | ((with_reducible apply Vq.runOps_cons); (first | exact rfl | ((try apply S6.vguard rfl); (first | apply S11.vshrT rfl rfl (Int.natCast_nonneg _) | apply S11.vshlT rfl rfl (Int.natCast_nonneg _) | apply S11.vshlV rfl (Int.natCast_nonneg _) | apply Vq.vidx rfl rfl (.inl rfl) (Int.natCast_nonneg _) (by assumption)); exact rfl)))
      | ((with_reducible first | apply Vq.vret | apply Vq.vskip | apply Vq.vexit | apply Vq.vab0 | apply Vq.vab1 | apply Vq.vabr); exact rfl)
      | ((with_reducible apply Vq.vregion); case hr => exact rfl)
      | (with_reducible first | apply Vq.vseq | apply Vq.vblock)
      | ((with_reducible apply Vq.vcond); exact rfl; dsimp only [Vq.pickC])
      | ((with_reducible apply Vq.vabx); (· decide); exact rfl) | dsimp only [Vq.afterSeq]); (try simp only [z1, z2, z3, z4, z5, z6, z7, z8, z9, z10, z11, z12, z13, z14, z15, z16, z17, z18, V.withLeaves, V.borrow, freeze1, borrows, borrow1, V.leaves, V.nextg, Nat.reduceAdd, Nat.reduceSub, layTup, obj1, splice, Bool.false_eq_true, if_true, if_false, Bool.not_true, Bool.not_false, hlt])))
      dsimp only [afterSeq]
      (with_reducible apply Vq.vseq)
      · repeat' (((first
      | (with_reducible exact Vq.runOps_nil)
      | ((with_reducible apply Vq.runOps_cons); (first | exact rfl | ((try apply S6.vguard rfl); (first | apply S11.vshrT rfl rfl (Int.natCast_nonneg _) | apply S11.vshlT rfl rfl (Int.natCast_nonneg _) | apply S11.vshlV rfl (Int.natCast_nonneg _) | apply Vq.vidx rfl rfl (.inl rfl) (Int.natCast_nonneg _) (by assumption)); exact rfl)))
      | ((with_reducible first | apply Vq.vret | apply Vq.vskip | apply Vq.vexit | apply Vq.vab0 | apply Vq.vab1 | apply Vq.vabr); exact rfl)
      | ((with_reducible apply Vq.vregion); case hr => exact rfl)
      | (with_reducible first | apply Vq.vseq | apply Vq.vblock)
      | ((with_reducible apply Vq.vcond); exact rfl; dsimp only [Vq.pickC])
      | ((with_reducible apply Vq.vabx); (· decide); exact rfl) | dsimp only [Vq.afterSeq]); (try simp only [z1, z2, z3, z4, z5, z6, z7, z8, z9, z10, z11, z12, z13, z14, z15, z16, z17, z18, V.withLeaves, V.borrow, freeze1, borrows, borrow1, V.leaves, V.nextg, Nat.reduceAdd, Nat.reduceSub, layTup, obj1, splice, Bool.false_eq_true, if_true, if_false, Bool.not_true, Bool.not_false, hlt])))
      dsimp only [afterSeq]
      (with_reducible apply Vq.vseq)
      · (with_reducible apply vblock)
        · (with_reducible apply Vq.vseq)
          · repeat' (((first
      | (with_reducible exact Vq.runOps_nil)
      | ((with_reducible apply Vq.runOps_cons); (first | exact rfl | ((try apply S6.vguard rfl); (first | apply S11.vshrT rfl rfl (Int.natCast_nonneg _) | apply S11.vshlT rfl rfl (Int.natCast_nonneg _) | apply S11.vshlV rfl (Int.natCast_nonneg _) | apply Vq.vidx rfl rfl (.inl rfl) (Int.natCast_nonneg _) (by assumption)); exact rfl)))
      | ((with_reducible first | apply Vq.vret | apply Vq.vskip | apply Vq.vexit | apply Vq.vab0 | apply Vq.vab1 | apply Vq.vabr); exact rfl)
      | ((with_reducible apply Vq.vregion); case hr => exact rfl)
      | (with_reducible first | apply Vq.vseq | apply Vq.vblock)
      | ((with_reducible apply Vq.vcond); exact rfl; dsimp only [Vq.pickC])
      | ((with_reducible apply Vq.vabx); (· decide); exact rfl) | dsimp only [Vq.afterSeq]); (try simp only [z1, z2, z3, z4, z5, z6, z7, z8, z9, z10, z11, z12, z13, z14, z15, z16, z17, z18, V.withLeaves, V.borrow, freeze1, borrows, borrow1, V.leaves, V.nextg, Nat.reduceAdd, Nat.reduceSub, layTup, obj1, splice, Bool.false_eq_true, if_true, if_false, Bool.not_true, Bool.not_false])))
          dsimp only [afterSeq]
          repeat' (((first
      | (with_reducible exact Vq.runOps_nil)
      | ((with_reducible apply Vq.runOps_cons); (first | exact rfl | ((try apply S6.vguard rfl); (first | apply S11.vshrT rfl rfl (Int.natCast_nonneg _) | apply S11.vshlT rfl rfl (Int.natCast_nonneg _) | apply S11.vshlV rfl (Int.natCast_nonneg _) | apply Vq.vidx rfl rfl (.inl rfl) (Int.natCast_nonneg _) (by assumption)); exact rfl)))
      | ((with_reducible first | apply Vq.vret | apply Vq.vskip | apply Vq.vexit | apply Vq.vab0 | apply Vq.vab1 | apply Vq.vabr); exact rfl)
      | ((with_reducible apply Vq.vregion); case hr => exact rfl)
      | (with_reducible first | apply Vq.vseq | apply Vq.vblock)
      | ((with_reducible apply Vq.vcond); exact rfl; dsimp only [Vq.pickC])
      | ((with_reducible apply Vq.vabx); (· decide); exact rfl) | dsimp only [Vq.afterSeq]); (try simp only [z1, z2, z3, z4, z5, z6, z7, z8, z9, z10, z11, z12, z13, z14, z15, z16, z17, z18, V.withLeaves, V.borrow, freeze1, borrows, borrow1, V.leaves, V.nextg, Nat.reduceAdd, Nat.reduceSub, layTup, obj1, splice, Bool.false_eq_true, if_true, if_false, Bool.not_true, Bool.not_false, hp, hp2, c1, c2, c3, c4, h7, hshr, c5, hshl, hor, c6, c7, hadd, hsub, h7', hs1, c8])))
        repeat' (((first
      | (with_reducible exact Vq.runOps_nil)
      | ((with_reducible apply Vq.runOps_cons); (first | exact rfl | ((try apply S6.vguard rfl); (first | apply S11.vshrT rfl rfl (Int.natCast_nonneg _) | apply S11.vshlT rfl rfl (Int.natCast_nonneg _) | apply S11.vshlV rfl (Int.natCast_nonneg _) | apply Vq.vidx rfl rfl (.inl rfl) (Int.natCast_nonneg _) (by assumption)); exact rfl)))
      | ((with_reducible first | apply Vq.vret | apply Vq.vskip | apply Vq.vexit | apply Vq.vab0 | apply Vq.vab1 | apply Vq.vabr); exact rfl)
      | ((with_reducible apply Vq.vregion); case hr => exact rfl)
      | (with_reducible first | apply Vq.vseq | apply Vq.vblock)
      | ((with_reducible apply Vq.vcond); exact rfl; dsimp only [Vq.pickC])
      | ((with_reducible apply Vq.vabx); (· decide); exact rfl) | dsimp only [Vq.afterSeq]); (try simp only [z1, z2, z3, z4, z5, z6, z7, z8, z9, z10, z11, z12, z13, z14, z15, z16, z17, z18, V.withLeaves, V.borrow, freeze1, borrows, borrow1, V.leaves, V.nextg, Nat.reduceAdd, Nat.reduceSub, layTup, obj1, splice, Bool.false_eq_true, if_true, if_false, Bool.not_true, Bool.not_false])))
      dsimp only [afterSeq]
      repeat' (((first
      | (with_reducible exact Vq.runOps_nil)
      | ((with_reducible apply Vq.runOps_cons); (first | exact rfl | ((try apply S6.vguard rfl); (first | apply S11.vshrT rfl rfl (Int.natCast_nonneg _) | apply S11.vshlT rfl rfl (Int.natCast_nonneg _) | apply S11.vshlV rfl (Int.natCast_nonneg _) | apply Vq.vidx rfl rfl (.inl rfl) (Int.natCast_nonneg _) (by assumption)); exact rfl)))
      | ((with_reducible first | apply Vq.vret | apply Vq.vskip | apply Vq.vexit | apply Vq.vab0 | apply Vq.vab1 | apply Vq.vabr); exact rfl)
      | ((with_reducible apply Vq.vregion); case hr => exact rfl)
      | (with_reducible first | apply Vq.vseq | apply Vq.vblock)
      | ((with_reducible apply Vq.vcond); exact rfl; dsimp only [Vq.pickC])
      | ((with_reducible apply Vq.vabx); (· decide); exact rfl) | dsimp only [Vq.afterSeq]); (try simp only [z1, z2, z3, z4, z5, z6, z7, z8, z9, z10, z11, z12, z13, z14, z15, z16, z17, z18, V.withLeaves, V.borrow, freeze1, borrows, borrow1, V.leaves, V.nextg, Nat.reduceAdd, Nat.reduceSub, layTup, obj1, splice, Bool.false_eq_true, if_true, if_false, Bool.not_true, Bool.not_false, hadd])))
    · exact rfl
end
end S11
end Go.Vq

namespace Go.Vq
namespace S12
open Go S2 S3 S4 S5 S6 S7 S8 S9 S10 S11
set_option maxRecDepth 1000000
theorem pow_cast (i : Nat) (hi : 7 * i ≤ 64) : (2 : Int) ^ min ((7 * i : Nat) : Int).toNat IntKind.u64.bits = ((2 ^ (7 * i) : Nat) : Int) := by
  have e : min ((7 * i : Nat) : Int).toNat IntKind.u64.bits = 7 * i := by
    rw [Int.toNat_natCast]
    exact Nat.min_eq_left hi
  rw [e, Int.natCast_pow]
  rfl
theorem pow_lt64 {i : Nat} (hi : 7 * i ≤ 63) : 2 ^ (7 * i) < 2 ^ 64 := Nat.pow_lt_pow_right (by decide) (by omega)
theorem or64 (n p i : Nat) (hn : n < 2 ^ (7 * i)) (hs : n + p * 2 ^ (7 * i) < 2 ^ 64) : IntKind.u64.wrap (BitVec.ofInt IntKind.u64.bits (n : Int) ||| BitVec.ofInt IntKind.u64.bits ((p * 2 ^ (7 * i) : Nat) : Int)).toNat = ((n + p * 2 ^ (7 * i) : Nat) : Int) := by
  have e : (BitVec.ofInt 64 (n : Int) ||| BitVec.ofInt 64 ((p * 2 ^ (7 * i) : Nat) : Int)).toNat = n + p * 2 ^ (7 * i) := by
    rw [orN _ _ (by omega) (by omega), Nat.or_comm, Nat.mul_comm p, ← Nat.two_pow_add_eq_or_of_lt hn, Nat.add_comm]
  have : IntKind.u64.wrap (((BitVec.ofInt 64 (n : Int) ||| BitVec.ofInt 64 ((p * 2 ^ (7 * i) : Nat) : Int)).toNat : Nat) : Int) = ((n + p * 2 ^ (7 * i) : Nat) : Int) := by
    rw [e, wrap64 _ hs]
  exact this
theorem dec_cons (lim i n x : Nat) (r : List Nat) : dec lim i n (x :: r) = if (i = 9 ∧ 1 < x) ∨ (0 < i ∧ x = 0) ∨ lim < n + x % 128 * 2 ^ (7 * i) then (0, -1)
    else if x < 128 then (((n + x % 128 * 2 ^ (7 * i) : Nat) : Int), ((i + 1 : Nat) : Int))
    else if lim - (n + x % 128 * 2 ^ (7 * i)) < 2 ^ (7 * (i + 1)) then (0, -1)
    else dec lim (i + 1) (n + x % 128 * 2 ^ (7 * i)) r := by rw [dec]
theorem round52 (cal : Callee) (its : FuncId → Iter) (again : Nat → VCode → St → Option (Out × St)) (l : List Nat) (lim n i : Nat) (hi : i < l.length) (hl : l.length < 2 ^ 40) (hi9 : i ≤ 9) (hx : l[i] < 256) (hlim : lim < 2 ^ 64) (hn : n < 2 ^ (7 * i)) :
    Ret cal its again l lim n i (dec lim i n (l.drop i)).1 (dec lim i n (l.drop i)).2 ∨
    (i + 1 ≤ 9 ∧ ∃ v, v < 2 ^ (7 * (i + 1)) ∧ dec lim i n (l.drop i) = dec lim (i + 1) v (l.drop (i + 1)) ∧ ∃ s, step cal its again 0 body52 (st52 l lim n i) = some (.normal, s) ∧ rebase? (some [0, 1, 6, 10, 11, 12]) 0 s = st52 l lim v (i + 1)) := by
  rw [List.drop_eq_getElem_cons hi, dec_cons]
  by_cases h1 : i = 9 ∧ 1 < l[i]
  · left
    rw [if_pos (.inl h1)]
    exact bad1 cal its again l lim n i hi hl hi9 hx _ _ _ _ rfl rfl rfl rfl ⟨by simp; omega, by simp; omega⟩
  by_cases h2 : 0 < i ∧ l[i] = 0
  · left
    rw [if_pos (.inr (.inl h2))]
    refine bad2 cal its again l lim n i hi hl hi9 hx _ _ _ _ rfl rfl rfl rfl ?_
    by_cases h9 : i = 9
    · exact .inr ⟨by simp; omega, by simp; omega, by simp; omega, by simp; omega⟩
    · exact .inl ⟨by simp; omega, by simp; omega, by simp; omega⟩
  have hb : (((i : Int) == 9) = false ∧ decide ((i : Int) > 0) = false) ∨ (((i : Int) == 9) = false ∧ decide ((i : Int) > 0) = true ∧ (((l[i] : Nat) : Int) == 0) = false) ∨ (((i : Int) == 9) = true ∧ decide (((l[i] : Nat) : Int) > 1) = false ∧ decide ((i : Int) > 0) = true ∧ (((l[i] : Nat) : Int) == 0) = false) := by
    by_cases h9 : i = 9
    · exact .inr (.inr ⟨by simp; omega, by simp; omega, by simp; omega, by simp; omega⟩)
    · by_cases h0 : i = 0
      · exact .inl ⟨by simp; omega, by simp; omega⟩
      · exact .inr (.inl ⟨by simp; omega, by simp; omega, by simp; omega⟩)
  have hpos : 0 < 2 ^ (7 * i) := Nat.two_pow_pos _
  have hshr : (lim : Int).fdiv (2 ^ min ((7 * i : Nat) : Int).toNat IntKind.u64.bits) = ((lim / 2 ^ (7 * i) : Nat) : Int) := by
    rw [pow_cast i (by omega), Int.fdiv_eq_ediv_of_nonneg _ (by omega)]
    rfl
  by_cases h5 : lim / 2 ^ (7 * i) < l[i] % 128
  · left
    have : lim < l[i] % 128 * 2 ^ (7 * i) := (Nat.div_lt_iff_lt_mul hpos).1 h5
    rw [if_pos (.inr (.inr (by omega)))]
    exact bad5 cal its again l lim n i hi hl hi9 hx _ _ _ _ rfl rfl rfl rfl hb hshr (decide_eq_true (Int.ofNat_lt.2 h5))
  have h5' : l[i] % 128 * 2 ^ (7 * i) ≤ lim := by
    rcases Nat.lt_or_ge lim (l[i] % 128 * 2 ^ (7 * i)) with h | h
    · exact absurd ((Nat.div_lt_iff_lt_mul hpos).2 h) h5
    · exact h
  have hshl : IntKind.u64.wrap (((l[i] % 128 : Nat) : Int) * 2 ^ min ((7 * i : Nat) : Int).toNat IntKind.u64.bits) = ((l[i] % 128 * 2 ^ (7 * i) : Nat) : Int) := by
    rw [pow_cast i (by omega), ← Int.natCast_mul]
    exact wrap64 _ (by omega)
  have hbound : n + l[i] % 128 * 2 ^ (7 * i) < 2 ^ (7 * (i + 1)) := by
    have e : 2 ^ (7 * (i + 1)) = 128 * 2 ^ (7 * i) := by rw [show 7 * (i + 1) = 7 * i + 7 by omega, Nat.pow_add, Nat.mul_comm]
    have h2 : (l[i] % 128 + 1) * 2 ^ (7 * i) ≤ 128 * 2 ^ (7 * i) := Nat.mul_le_mul_right _ (by omega)
    rw [Nat.add_mul, Nat.one_mul] at h2
    omega
  have hb64 : n + l[i] % 128 * 2 ^ (7 * i) < 2 ^ 64 := by
    by_cases h9 : i = 9
    · subst h9
      have hle : l[9] % 128 ≤ 1 := by omega
      have h3 : l[9] % 128 * 2 ^ (7 * 9) ≤ 1 * 2 ^ (7 * 9) := Nat.mul_le_mul_right _ hle
      have h4 : (2 : Nat) ^ (7 * 9) = 9223372036854775808 := by decide
      have h5 : (2 : Nat) ^ 64 = 18446744073709551616 := by decide
      omega
    · have := pow_lt64 (i := i + 1) (by omega)
      omega
  have hor := or64 n (l[i] % 128) i hn hb64
  have c5 : decide (((l[i] % 128 : Nat) : Int) > ((lim / 2 ^ (7 * i) : Nat) : Int)) = false := decide_eq_false (by omega)
  by_cases h6 : lim < n + l[i] % 128 * 2 ^ (7 * i)
  · left
    rw [if_pos (.inr (.inr h6))]
    exact bad6 cal its again l lim n i hi hl hi9 hx _ _ _ _ rfl rfl rfl rfl hb hshr c5 _ hshl hor (decide_eq_true (by omega))
  rw [if_neg (by
    rintro (h | h | h)
    · exact h1 h
    · exact h2 h
    · exact h6 h)]
  have c6 : decide (((n + l[i] % 128 * 2 ^ (7 * i) : Nat) : Int) > (lim : Int)) = false := decide_eq_false (by omega)
  by_cases h7 : l[i] < 128
  · left
    rw [if_pos h7]
    exact val7 cal its again l lim n i hi hl hi9 hx _ _ _ _ rfl rfl rfl rfl hb hshr c5 _ hshl hor c6 (decide_eq_true (by omega))
  rw [if_neg h7]
  have h8i : i ≤ 8 := by omega
  have c7 : decide (((l[i] : Nat) : Int) < 128) = false := decide_eq_false (by omega)
  have hsub : IntKind.u64.wrap ((lim : Int) - ((n + l[i] % 128 * 2 ^ (7 * i) : Nat) : Int)) = ((lim - (n + l[i] % 128 * 2 ^ (7 * i)) : Nat) : Int) := by
    have e : (lim : Int) - ((n + l[i] % 128 * 2 ^ (7 * i) : Nat) : Int) = ((lim - (n + l[i] % 128 * 2 ^ (7 * i)) : Nat) : Int) := by omega
    rw [e, wrap64 _ (by omega)]
  have hs1 : IntKind.u64.wrap (1 * 2 ^ min ((7 * (i + 1) : Nat) : Int).toNat IntKind.u64.bits) = ((2 ^ (7 * (i + 1)) : Nat) : Int) := by
    rw [pow_cast (i + 1) (by omega), Int.one_mul]
    exact wrap64 _ (pow_lt64 (by omega))
  by_cases h8 : lim - (n + l[i] % 128 * 2 ^ (7 * i)) < 2 ^ (7 * (i + 1))
  · left
    rw [if_pos h8]
    exact bad8 cal its again l lim n i hi hl hi9 hx _ _ _ _ rfl rfl rfl rfl hb hshr c5 _ hshl hor c6 c7 hsub hs1 (decide_eq_true (by omega))
  · right
    rw [if_neg h8]
    exact ⟨by omega, _, hbound, rfl, next8 cal its again l lim n i hi hl hi9 hx _ _ _ _ rfl rfl rfl rfl hb hshr c5 _ hshl hor c6 c7 hsub hs1 (decide_eq_false (by omega))⟩
theorem out52 (cal : Callee) (its : FuncId → Iter) (again : Nat → VCode → St → Option (Out × St)) (l : List Nat) (lim n i : Nat) (hi : l.length ≤ i) : step cal its again 0 body52 (st52 l lim n i) = some (.exit 0, ex52 l lim n i) := by
  have hlt : decide ((i : Int) < ((byN l).length : Int)) = false := by rw [byN_len]; simp; omega
  unfold body52 st52 ex52
  repeat' (((first
      | (with_reducible exact Vq.runOps_nil)
      | ((with_reducible apply Vq.runOps_cons); (first | exact rfl))
      | ((with_reducible first | apply Vq.vret | apply Vq.vskip | apply Vq.vexit | apply Vq.vab0 | apply Vq.vab1 | apply Vq.vabr); exact rfl)
      | ((with_reducible apply Vq.vregion); case hr => exact rfl)
      | (with_reducible first | apply Vq.vseq | apply Vq.vblock)
      | ((with_reducible apply Vq.vcond); exact rfl; dsimp only [Vq.pickC])
      | ((with_reducible apply Vq.vabx); (· decide); exact rfl) | dsimp only [Vq.afterSeq]); (try simp only [z1, z2, z3, z4, z5, z6, z7, z8, z9, z10, z11, z12, z13, z14, z15, z16, z17, z18, V.withLeaves, V.borrow, freeze1, borrows, borrow1, V.leaves, V.nextg, Nat.reduceAdd, Nat.reduceSub, layTup, obj1, splice, Bool.false_eq_true, if_true, if_false, Bool.not_true, Bool.not_false, hlt])))
theorem loop52 (G : VProg) (l : List Nat) (lim : Nat) (hl : l.length < 2 ^ 40) (hx : ∀ x ∈ l, x < 256) (hlim : lim < 2 ^ 64) : ∀ (j i m n : Nat) (σ : St), i ≤ 9 → n < 2 ^ (7 * i) → i + j = l.length → 11 ≤ m + i → rebase? (some [0, 1, 6, 10, 11, 12]) 0 σ = st52 l lim n i →
    (∃ s, step (call G m) (itersOf G) (exec G m) 0 (.loop (some [0, 1, 6, 10, 11, 12]) body52) σ = some (.ret, s) ∧ finish v52 0 s = some (.tup [.int .u64 (dec lim i n (l.drop i)).1, .int .i64 (dec lim i n (l.drop i)).2], [])) ∨
    (dec lim i n (l.drop i) = (0, 0) ∧ ∃ v, step (call G m) (itersOf G) (exec G m) 0 (.loop (some [0, 1, 6, 10, 11, 12]) body52) σ = some (.exit 0, ex52 l lim v l.length))
  | 0, i, m, n, σ, hi9, hn, hi, hm, hr => by
    obtain rfl : i = l.length := by omega
    right
    refine ⟨by rw [List.drop_length]; rfl, n, step_loop_out hr (out52 _ _ _ l lim n _ (Nat.le_refl _)) (by intro e; cases e)⟩
  | j + 1, i, m, n, σ, hi9, hn, hi, hm, hr => by
    cases m with
    | zero => omega
    | succ m =>
    rcases round52 (call G (m + 1)) (itersOf G) (exec G (m + 1)) l lim n i (by omega) hl hi9 (hx _ (List.getElem_mem (by omega))) hlim hn with ⟨s, h1, h2⟩ | ⟨h9, v, hv, he, s, h1, h2⟩
    · exact .inl ⟨s, step_loop_out hr h1 (by intro e; cases e), h2⟩
    · rw [he]
      rcases loop52 G l lim hl hx hlim j (i + 1) m v s h9 hv (by omega) (by omega) h2 with ⟨s', h3, h4⟩ | ⟨h3, v', h4⟩
      · exact .inl ⟨s', step_loop hr h1 (by rw [exec_succ]; exact h3), h4⟩
      · exact .inr ⟨h3, v', step_loop hr h1 (by rw [exec_succ]; exact h4)⟩
/-- packet.number -/
theorem number52 (G : VProg) (hG : G 52 = some (.code v52)) (l : List Nat) (lim : Nat) (hl : l.length < 2 ^ 40) (hx : ∀ x ∈ l, x < 256) (hlim : lim < 2 ^ 64) (m : Nat) (hm : 12 ≤ m) :
    call G m 52 [.isl 0 1 (byN l), .int .u64 lim] [] = some (.tup [.int .u64 (dec lim 0 0 l).1, .int .i64 (dec lim 0 0 l).2], []) := by
  obtain ⟨m, rfl⟩ : ∃ k, m = k + 1 := ⟨m - 1, by omega⟩
  rcases loop52 G l lim hl hx hlim l.length 0 m 0 { slots := (.isl 0 1 (byN l) :: .int .u64 lim :: .gone 0 :: .gone 0 :: .int .u64 0 :: .int .i64 0 :: .int .u64 0 :: .gone 0 :: .gone 0 :: .gone 0 :: .isl 0 1 (byN l) :: .int .i64 (byN l).length :: .int .i64 0 :: .gone 0 :: .gone 0 :: .gone 0 :: .gone 0 :: .gone 0 :: .gone 0 :: .gone 0 :: .gone 0 :: .gone 0 :: .gone 0 :: .gone 0 :: .gone 0 :: .gone 0 :: .gone 0 :: .gone 0 :: .gone 0 :: .gone 0 :: .gone 0 :: .gone 0 :: .gone 0 :: .gone 0 :: .gone 0 :: .gone 0 :: .gone 0 :: .gone 0 :: .gone 0 :: .gone 0 :: .gone 0 :: .gone 0 :: .gone 0 :: .gone 0 :: .gone 0 :: .gone 0 :: .gone 0 :: .gone 0 :: .gone 0 :: .gone 0 :: .gone 0 :: .gone 0 :: .gone 0 :: .gone 0 :: .gone 0 :: .gone 0 :: .gone 0 :: .gone 0 :: .gone 0 :: .gone 0 :: .gone 0 :: .gone 0 :: .gone 0 :: .gone 0 :: .gone 0 :: []), objs := [] } (by omega) (by omega) (by omega) (by omega) rfl with ⟨s, h3, h4⟩ | ⟨h3, v', h4⟩
  · apply call_code (o := .ret) hG ⟨rfl, by decide⟩
    · change step (call G m) (itersOf G) (exec G m) 0 b52 _ = _
      (try simp only [Vq.start, List.length_cons, List.length_nil, List.map_cons, List.map_nil, List.cons_append, List.nil_append, List.replicate_succ, List.replicate_zero, Nat.reduceAdd, Nat.reduceSub, v52])
      unfold b52
      (with_reducible apply Vq.vseq)
      · repeat' (((first
      | (with_reducible exact Vq.runOps_nil)
      | ((with_reducible apply Vq.runOps_cons); (first | exact rfl))
      | ((with_reducible first | apply Vq.vret | apply Vq.vskip | apply Vq.vexit | apply Vq.vab0 | apply Vq.vab1 | apply Vq.vabr); exact rfl)
      | ((with_reducible apply Vq.vregion); case hr => exact rfl)
      | (with_reducible first | apply Vq.vseq | apply Vq.vblock)
      | ((with_reducible apply Vq.vcond); exact rfl; dsimp only [Vq.pickC])
      | ((with_reducible apply Vq.vabx); (· decide); exact rfl) | dsimp only [Vq.afterSeq]); (try simp only [z1, z2, z3, z4, z5, z6, z7, z8, z9, z10, z11, z12, z13, z14, z15, z16, z17, z18, V.withLeaves, V.borrow, freeze1, borrows, borrow1, V.leaves, V.nextg, Nat.reduceAdd, Nat.reduceSub, layTup, obj1, splice, Bool.false_eq_true, if_true, if_false, Bool.not_true, Bool.not_false])))
      dsimp only [afterSeq]
      (with_reducible apply Vq.vseq)
      · repeat' (((first
      | (with_reducible exact Vq.runOps_nil)
      | ((with_reducible apply Vq.runOps_cons); (first | exact rfl))
      | ((with_reducible first | apply Vq.vret | apply Vq.vskip | apply Vq.vexit | apply Vq.vab0 | apply Vq.vab1 | apply Vq.vabr); exact rfl)
      | ((with_reducible apply Vq.vregion); case hr => exact rfl)
      | (with_reducible first | apply Vq.vseq | apply Vq.vblock)
      | ((with_reducible apply Vq.vcond); exact rfl; dsimp only [Vq.pickC])
      | ((with_reducible apply Vq.vabx); (· decide); exact rfl) | dsimp only [Vq.afterSeq]); (try simp only [z1, z2, z3, z4, z5, z6, z7, z8, z9, z10, z11, z12, z13, z14, z15, z16, z17, z18, V.withLeaves, V.borrow, freeze1, borrows, borrow1, V.leaves, V.nextg, Nat.reduceAdd, Nat.reduceSub, layTup, obj1, splice, Bool.false_eq_true, if_true, if_false, Bool.not_true, Bool.not_false])))
      dsimp only [afterSeq]
      (with_reducible apply Vq.vseq)
      · (with_reducible apply Vq.vseq)
        · repeat' (((first
      | (with_reducible exact Vq.runOps_nil)
      | ((with_reducible apply Vq.runOps_cons); (first | exact rfl))
      | ((with_reducible first | apply Vq.vret | apply Vq.vskip | apply Vq.vexit | apply Vq.vab0 | apply Vq.vab1 | apply Vq.vabr); exact rfl)
      | ((with_reducible apply Vq.vregion); case hr => exact rfl)
      | (with_reducible first | apply Vq.vseq | apply Vq.vblock)
      | ((with_reducible apply Vq.vcond); exact rfl; dsimp only [Vq.pickC])
      | ((with_reducible apply Vq.vabx); (· decide); exact rfl) | dsimp only [Vq.afterSeq]); (try simp only [z1, z2, z3, z4, z5, z6, z7, z8, z9, z10, z11, z12, z13, z14, z15, z16, z17, z18, V.withLeaves, V.borrow, freeze1, borrows, borrow1, V.leaves, V.nextg, Nat.reduceAdd, Nat.reduceSub, layTup, obj1, splice, Bool.false_eq_true, if_true, if_false, Bool.not_true, Bool.not_false])))
        dsimp only [afterSeq]
        (with_reducible apply vblock)
        · exact h3
        · repeat' (((first
      | (with_reducible exact Vq.runOps_nil)
      | ((with_reducible apply Vq.runOps_cons); (first | exact rfl))
      | ((with_reducible first | apply Vq.vret | apply Vq.vskip | apply Vq.vexit | apply Vq.vab0 | apply Vq.vab1 | apply Vq.vabr); exact rfl)
      | ((with_reducible apply Vq.vregion); case hr => exact rfl)
      | (with_reducible first | apply Vq.vseq | apply Vq.vblock)
      | ((with_reducible apply Vq.vcond); exact rfl; dsimp only [Vq.pickC])
      | ((with_reducible apply Vq.vabx); (· decide); exact rfl) | dsimp only [Vq.afterSeq]); (try simp only [z1, z2, z3, z4, z5, z6, z7, z8, z9, z10, z11, z12, z13, z14, z15, z16, z17, z18, V.withLeaves, V.borrow, freeze1, borrows, borrow1, V.leaves, V.nextg, Nat.reduceAdd, Nat.reduceSub, layTup, obj1, splice, Bool.false_eq_true, if_true, if_false, Bool.not_true, Bool.not_false])))
      dsimp only [afterSeq]
    · exact .inr rfl
    · exact h4
  · rw [List.drop_zero] at h3
    apply call_code (o := .ret) hG ⟨rfl, by decide⟩
    · change step (call G m) (itersOf G) (exec G m) 0 b52 _ = _
      (try simp only [Vq.start, List.length_cons, List.length_nil, List.map_cons, List.map_nil, List.cons_append, List.nil_append, List.replicate_succ, List.replicate_zero, Nat.reduceAdd, Nat.reduceSub, v52])
      unfold b52
      (with_reducible apply Vq.vseq)
      · repeat' (((first
      | (with_reducible exact Vq.runOps_nil)
      | ((with_reducible apply Vq.runOps_cons); (first | exact rfl))
      | ((with_reducible first | apply Vq.vret | apply Vq.vskip | apply Vq.vexit | apply Vq.vab0 | apply Vq.vab1 | apply Vq.vabr); exact rfl)
      | ((with_reducible apply Vq.vregion); case hr => exact rfl)
      | (with_reducible first | apply Vq.vseq | apply Vq.vblock)
      | ((with_reducible apply Vq.vcond); exact rfl; dsimp only [Vq.pickC])
      | ((with_reducible apply Vq.vabx); (· decide); exact rfl) | dsimp only [Vq.afterSeq]); (try simp only [z1, z2, z3, z4, z5, z6, z7, z8, z9, z10, z11, z12, z13, z14, z15, z16, z17, z18, V.withLeaves, V.borrow, freeze1, borrows, borrow1, V.leaves, V.nextg, Nat.reduceAdd, Nat.reduceSub, layTup, obj1, splice, Bool.false_eq_true, if_true, if_false, Bool.not_true, Bool.not_false])))
      dsimp only [afterSeq]
      (with_reducible apply Vq.vseq)
      · repeat' (((first
      | (with_reducible exact Vq.runOps_nil)
      | ((with_reducible apply Vq.runOps_cons); (first | exact rfl))
      | ((with_reducible first | apply Vq.vret | apply Vq.vskip | apply Vq.vexit | apply Vq.vab0 | apply Vq.vab1 | apply Vq.vabr); exact rfl)
      | ((with_reducible apply Vq.vregion); case hr => exact rfl)
      | (with_reducible first | apply Vq.vseq | apply Vq.vblock)
      | ((with_reducible apply Vq.vcond); exact rfl; dsimp only [Vq.pickC])
      | ((with_reducible apply Vq.vabx); (· decide); exact rfl) | dsimp only [Vq.afterSeq]); (try simp only [z1, z2, z3, z4, z5, z6, z7, z8, z9, z10, z11, z12, z13, z14, z15, z16, z17, z18, V.withLeaves, V.borrow, freeze1, borrows, borrow1, V.leaves, V.nextg, Nat.reduceAdd, Nat.reduceSub, layTup, obj1, splice, Bool.false_eq_true, if_true, if_false, Bool.not_true, Bool.not_false])))
      dsimp only [afterSeq]
      (with_reducible apply Vq.vseq)
      · (with_reducible apply Vq.vseq)
        · repeat' (((first
      | (with_reducible exact Vq.runOps_nil)
      | ((with_reducible apply Vq.runOps_cons); (first | exact rfl))
      | ((with_reducible first | apply Vq.vret | apply Vq.vskip | apply Vq.vexit | apply Vq.vab0 | apply Vq.vab1 | apply Vq.vabr); exact rfl)
      | ((with_reducible apply Vq.vregion); case hr => exact rfl)
      | (with_reducible first | apply Vq.vseq | apply Vq.vblock)
      | ((with_reducible apply Vq.vcond); exact rfl; dsimp only [Vq.pickC])
      | ((with_reducible apply Vq.vabx); (· decide); exact rfl) | dsimp only [Vq.afterSeq]); (try simp only [z1, z2, z3, z4, z5, z6, z7, z8, z9, z10, z11, z12, z13, z14, z15, z16, z17, z18, V.withLeaves, V.borrow, freeze1, borrows, borrow1, V.leaves, V.nextg, Nat.reduceAdd, Nat.reduceSub, layTup, obj1, splice, Bool.false_eq_true, if_true, if_false, Bool.not_true, Bool.not_false])))
        dsimp only [afterSeq]
        (with_reducible apply vblock)
        · exact h4
        · apply vabkx (τ := { slots := (.gone 0 :: .gone 0 :: .gone 0 :: .gone 0 :: .gone 0 :: .gone 0 :: .gone 0 :: .gone 0 :: .gone 0 :: .gone 0 :: .gone 0 :: .gone 0 :: .gone 0 :: .gone 0 :: .gone 0 :: .gone 0 :: .gone 0 :: .gone 0 :: .gone 0 :: .gone 0 :: .gone 0 :: .gone 0 :: .gone 0 :: .gone 0 :: .gone 0 :: .gone 0 :: .gone 0 :: .gone 0 :: .gone 0 :: .gone 0 :: .gone 0 :: .gone 0 :: .gone 0 :: .gone 0 :: .gone 0 :: .gone 0 :: .gone 0 :: .gone 0 :: .gone 0 :: .gone 0 :: .gone 0 :: .gone 0 :: .gone 0 :: .gone 0 :: .gone 0 :: .gone 0 :: .gone 0 :: .gone 0 :: .gone 0 :: .gone 0 :: .gone 0 :: .gone 0 :: .gone 0 :: .gone 0 :: .gone 0 :: .gone 0 :: .gone 0 :: .gone 0 :: .gone 0 :: .gone 0 :: .gone 0 :: .gone 0 :: .gone 0 :: .gone 0 :: .gone 0 :: []), objs := [] }) rfl
          exact rfl
      dsimp only [afterSeq]
      repeat' (((first
      | (with_reducible exact Vq.runOps_nil)
      | ((with_reducible apply Vq.runOps_cons); (first | exact rfl))
      | ((with_reducible first | apply Vq.vret | apply Vq.vskip | apply Vq.vexit | apply Vq.vab0 | apply Vq.vab1 | apply Vq.vabr); exact rfl)
      | ((with_reducible apply Vq.vregion); case hr => exact rfl)
      | (with_reducible first | apply Vq.vseq | apply Vq.vblock)
      | ((with_reducible apply Vq.vcond); exact rfl; dsimp only [Vq.pickC])
      | ((with_reducible apply Vq.vabx); (· decide); exact rfl) | dsimp only [Vq.afterSeq]); (try simp only [z1, z2, z3, z4, z5, z6, z7, z8, z9, z10, z11, z12, z13, z14, z15, z16, z17, z18, V.withLeaves, V.borrow, freeze1, borrows, borrow1, V.leaves, V.nextg, Nat.reduceAdd, Nat.reduceSub, layTup, obj1, splice, Bool.false_eq_true, if_true, if_false, Bool.not_true, Bool.not_false])))
    · exact .inr rfl
    · rw [h3]
      first | exact rfl | (apply Vq.vfin; (· apply Vq.run_asks; (· simp); (try simp only [List.take_length, List.drop_zero]); (first | apply Vq.run_if trivial | apply Vq.run_if rfl); unfold Vq.sHome; simp only [Vq.Prog.run]; apply Vq.run_asks; (· exact Nat.zero_lt_one); exact rfl); (· exact rfl); (· exact rfl); (· decide); (· exact rfl); (· exact rfl))
end S12
end Go.Vq

