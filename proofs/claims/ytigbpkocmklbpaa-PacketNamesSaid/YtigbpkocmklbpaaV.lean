/- The V-level program of this seat (no law of Go is stated here). -/
import Derived.Test.YtigbpkocmklbpaaChecked
import Derived.Test.YtigbpkocmklbpaaF7
import Derived.KernelRfl
namespace Go.Proofs.Ytigbpkocmklbpaa
open Go.Vq
def keepsL : List (Nat × List (List Nat)) := [(11, [[0, 1, 2, 7, 30, 31, 32, 33, 40, 41, 54], [0, 1, 2, 7, 30, 40, 42, 43, 44, 54, 55]]), (17, [[0, 2, 3, 6, 12]]), (18, [[0, 11, 12, 13, 14, 15, 16, 29]]), (30, [[0, 1, 2, 3, 12, 13, 14, 15, 16, 17, 67], [0, 1, 2, 3, 8, 9, 10, 12, 13, 14, 15, 16, 17, 19, 20, 21, 25, 67]]), (35, [[1, 5, 9, 10, 11, 12, 25, 30, 31], [1, 5, 7, 9, 10, 11, 12, 14, 15, 19, 25, 30, 31]]), (36, [[0, 3, 4, 13, 15]]), (38, [[1, 5, 9, 10, 11, 12, 23, 24]]), (49, [[0, 3, 8, 9, 10, 24, 26], [0, 3, 5, 8, 9, 10, 12, 13, 14, 15, 16, 24, 25, 26]]), (51, [[0, 3, 7, 8, 9, 16, 22, 23], [0, 3, 6, 7, 8, 9, 16, 20, 22, 23]]), (54, [[0, 1, 3, 6, 10]]), (55, [[0, 1, 5, 6, 14, 15]])]
def apL : List Nat := [0, 1, 2, 3, 4, 5, 6, 7, 8, 9, 10, 11, 12, 13, 14, 17, 31, 32, 33, 34, 35, 36, 37, 38, 42, 49, 50, 51, 52, 53, 55, 56, 57, 58, 59, 60, 61, 62, 63, 64, 72]
def lookL {α : Type} (d : α) : List (Nat × α) → Nat → α
  | [], _ => d
  | (k, v) :: l, n => if k = n then v else lookL d l n
def ap (f : FuncId) : Bool := apL.contains f
def keeps (f : FuncId) : List (List Nat) := lookL [] keepsL f
def prims (f : FuncId) : Option Prim := if f = 53 then some (clonePrim 1 1) else none
noncomputable def G : VProg := vprog Try.prog ap keeps prims
end Go.Proofs.Ytigbpkocmklbpaa
