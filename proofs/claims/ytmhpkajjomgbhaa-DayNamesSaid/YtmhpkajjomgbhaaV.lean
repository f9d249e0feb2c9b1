/- The V-level program of this seat (no law of Go is stated here). -/
import Derived.Test.YtmhpkajjomgbhaaChecked
import Derived.Test.YtmhpkajjomgbhaaF15
import Derived.KernelRfl
namespace Go.Proofs.Ytmhpkajjomgbhaa
open Go.Vq
def keepsL : List (Nat × Vq.Keeps) := [(6, [some [7, 8, 9], some [0, 2, 7, 8, 9, 10], none]), (11, [some [0, 4], some [0, 4, 5], some [0, 4, 5], some [0, 4, 5], some [0, 4, 5, 15, 16, 17], none, some [0, 4], some [0, 4, 29, 30, 31], none]), (12, [some [], some [0, 1, 12, 13], none]), (14, [some [], some [0, 6], none]), (20, [some [0], some [0, 3, 6, 7, 8], none]), (21, [some [], some [0, 1, 7, 8, 9], none]), (22, [some [0], some [0, 3], some [0, 3], some [0, 3], some [0, 3, 4, 5, 26, 28], none]), (25, [some [0], some [0, 5, 6, 7], none]), (31, [some [], some [0, 1, 5, 6, 7], none]), (33, [some [5], some [0, 1, 5, 6], none]), (35, [some [2], some [2], none]), (36, [some [], some [0, 1, 2, 3, 8, 9, 13, 14, 15, 93, 100, 101, 102, 133], none]), (38, [some [], some [0, 1, 2, 6], some [0, 1, 2, 6], some [0, 1, 2, 6], some [0, 1, 2, 6, 7, 15], none]), (39, [some [0, 1, 6, 7, 8, 11], some [0, 1, 6, 7, 8, 9, 11], none, some [], some [0, 1, 6, 7, 10, 11], none]), (40, [some [], some [0, 1, 6, 7, 8, 9], none]), (41, [none]), (42, [some [], some [0, 1, 6, 7, 8], none]), (43, [some [], some [0, 1, 2, 7, 8], some [0, 1, 2, 7, 8], some [0, 1, 2, 7, 8], some [0, 1, 2, 7, 8], none, some [0, 1, 2, 7, 8], some [0, 1, 2, 7, 8, 9], none, some [0, 1, 2, 7, 8], some [0, 1, 2, 7, 8, 10], none]), (45, [some [9], some [0, 1, 9, 10], some [0, 1, 9, 10], some [0, 1, 9, 10], some [0, 1, 9, 10], none, some [0, 1, 9, 10], some [0, 1, 9, 10], none]), (46, [some [0, 1, 10, 11], some [0, 1, 10, 11], none, some [0, 1, 10, 11], some [0, 1, 10, 11], none, some [0, 1, 11], some [0, 1, 10, 11], some [0, 1, 10, 11], some [0, 1, 10, 11], some [0, 1, 10, 11], none, some [0, 1, 10, 11], some [0, 1, 10, 11], none]), (49, [some [], some [0, 1, 2, 3, 8, 9, 10, 75], none])]
def apL : List Nat := [0, 1, 2, 3, 4, 5, 6, 7, 8, 9, 10, 11, 12, 13, 14, 15, 16, 17, 18, 19, 20, 21, 25, 26, 27, 28, 32, 36, 37, 38, 39, 40, 41, 42, 43, 44, 45, 46, 47, 48, 49, 50, 54, 56, 57, 58, 59, 60, 61, 62, 63, 71]
def mvL : List (Nat × Nat) := [(22, 1), (30, 1000), (35, 1)]
def ibL : List Nat := [26, 24]
def lookL {α : Type} (d : α) : List (Nat × α) → Nat → α
  | [], _ => d
  | (k, v) :: l, n => if k = n then v else lookL d l n
def ap (f : FuncId) : CallM := match lookL 0 mvL f with | 0 => if apL.contains f then .ap else .lend | 1000 => .ip | m => .mv m
def ib (f : FuncId) : Bool := ibL.contains f
def keeps (f : FuncId) : Vq.Keeps := lookL [] keepsL f
def prims (f : FuncId) : Option VDef := if f = 30 then some (.prim sortPrim) else if f = 22 then some (.prim compactPrim) else if f = 31 then some (.iter (valuesI false 1)) else none
noncomputable def G : VProg := vprog Try.prog ap ib keeps prims
end Go.Proofs.Ytmhpkajjomgbhaa
