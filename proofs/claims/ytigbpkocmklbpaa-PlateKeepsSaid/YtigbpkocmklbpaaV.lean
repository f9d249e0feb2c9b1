/- The V-level program of this seat (no law of Go is stated here). -/
import Derived.Test.YtigbpkocmklbpaaChecked
import Derived.Test.YtigbpkocmklbpaaF15
import Derived.KernelRfl
namespace Go.Proofs.Ytigbpkocmklbpaa
open Go.Vq
def keepsL : List (Nat × Vq.Keeps) := [(3, [some [1, 5, 8, 9, 10, 11, 31, 32], some [1, 5, 7, 8, 9, 10, 11, 29, 30, 31, 32, 49, 50, 51], none, some [1, 5, 8, 9, 10, 11, 14, 31, 32], some [1, 5, 8, 9, 10, 11, 14, 31, 32, 79], none, some [1, 5, 9, 10, 11, 14], some [1, 5, 8, 9, 10, 11, 14, 31, 32, 91, 92, 93], none, some [1, 5, 9, 10, 11, 14, 18], some [1, 5, 9, 10, 11, 14, 18, 117], none, some [9, 10, 11, 14, 18, 20], some [9, 10, 11, 14, 18, 20, 138, 139], none, some [], some [9, 10, 11, 14, 18, 149], none]), (4, [some [9, 42], some [2, 8, 9, 10, 11, 42, 47], none]), (6, [some [5, 6], some [1, 5, 6, 31, 32, 33], none, none, some [], some [5, 6, 155, 156], none]), (7, [some [0, 1, 5, 6], some [0, 1, 5, 6, 7], none]), (9, [some [1, 10, 136, 138], some [1, 10, 66, 67, 68, 136, 138], none, some [10, 136, 138], some [1, 10, 100, 101, 102, 136, 138], none]), (10, [some [0, 1, 5, 6, 7], some [0, 1, 5, 6, 7, 8, 20], none]), (11, [some [0, 1, 2, 7], some [0, 1, 2, 7, 31, 32, 33], none, some [0, 1, 2, 7], some [0, 1, 2, 7, 42, 43, 44], none]), (13, [some [0, 5, 6, 7], some [0, 1, 5, 6, 7, 27, 28, 29], none]), (17, [some [0, 2, 3], some [0, 2, 3, 6], none]), (18, [some [0], some [0, 11, 12, 13, 14, 15, 16], none]), (20, [some [0, 3, 4, 5], some [0, 3, 4, 5], none]), (21, [some [0], some [0, 1, 2, 3, 11, 12, 13, 14, 15, 16], none]), (30, [some [0], some [0, 1, 2, 3, 12, 13, 14, 15, 16, 17], some [0, 1, 2, 3, 12, 13, 14, 15, 16, 17], some [0, 1, 2, 3, 12, 13, 14, 15, 16, 17], some [0, 1, 2, 3, 8, 9, 10, 12, 13, 14, 15, 16, 17, 19, 20, 21], none]), (34, [some [0, 2], some [0, 2, 12, 13], none, none, some [0, 2, 8, 9, 40], some [0, 2, 8, 9, 10, 40, 64], none]), (35, [some [5], some [1, 5, 10, 11, 12], some [1, 5, 10, 11, 12], some [1, 5, 7, 10, 11, 12, 14, 15], some [1, 5, 7, 10, 11, 12, 14, 15], none]), (36, [some [0, 3], some [0, 3], none]), (38, [some [5], some [1, 5, 10, 11, 12], none]), (42, [some [], some [0, 1, 6, 7, 8], none]), (49, [some [3], some [0, 3, 8, 9, 10], some [0, 3, 8, 9, 10], some [0, 3, 8, 9, 10], some [0, 3, 5, 8, 9, 10, 12, 13, 14, 15, 16], none]), (51, [some [3], some [0, 3, 7, 8, 9], some [0, 3, 7, 8, 9], some [0, 3, 7, 8, 9], some [0, 3, 6, 7, 8, 9], none]), (52, [some [], some [0, 1, 6, 10, 11, 12], none]), (54, [some [], some [0, 1, 3], none]), (55, [some [0], some [0, 1, 5, 6], none])]
def apL : List Nat := [0, 1, 2, 3, 4, 5, 6, 7, 8, 9, 10, 11, 12, 13, 14, 17, 31, 32, 33, 34, 35, 36, 37, 38, 42, 49, 50, 51, 52, 53, 55, 56, 57, 58, 59, 60, 61, 62, 63, 64, 72]
def mvL : List (Nat × Nat) := []
def ibL : List Nat := [47]
def lookL {α : Type} (d : α) : List (Nat × α) → Nat → α
  | [], _ => d
  | (k, v) :: l, n => if k = n then v else lookL d l n
def ap (f : FuncId) : CallM := match lookL 0 mvL f with | 0 => if apL.contains f then .ap else .lend | m => .mv m
def ib (f : FuncId) : Bool := ibL.contains f
def keeps (f : FuncId) : Vq.Keeps := lookL [] keepsL f
def prims (f : FuncId) : Option VDef := if f = 53 then some (.prim (clonePrim 1 1)) else if f = 54 then some (.iter (backwardI true 65)) else none
noncomputable def G : VProg := vprog Try.prog ap ib keeps prims
end Go.Proofs.Ytigbpkocmklbpaa
