/- The functions of this seat that are taken by their laws (no law of Go is stated here). -/
import Derived.Test.YtmhpkajjomgbhaaV
import Derived.WalkKit
import Derived.Shelf.Lays
import Derived.Shelf.Lays2
namespace Go.Proofs.Ytmhpkajjomgbhaa
open Go.Shelf
def mSort_ren : Go.Shelf.Ren := ⟨fun | 189 => 30 | 125 => 37 | 257 => 36 | 128 => 47 | 129 => 48 | 294 => 38 | 295 => 39 | 296 => 40 | 297 => 41 | 298 => 42 | 299 => 43 | 216 => 44 | 300 => 45 | 301 => 46 | 328 => 49 | 329 => 50 | 330 => 51 | 331 => 52 | 332 => 53 | 215 => 54 | 343 => 55 | n => n, fun | 28 => 22 | 3 => 3 | 46 => 56 | 0 => 0 | 51 => 67 | 53 => 69 | 4 => 4 | 183 => 59 | 182 => 58 | 131 => 64 | 5 => 5 | 9 => 9 | 218 => 70 | 222 => 74 | 228 => 76 | 229 => 77 | n => n, fun | n => n⟩
theorem mSort : Go.Proofs.Lays.n189 Try.prog mSort_ren := {
  mixed := by kernel_rfl
  f125 := Try.func37.trans (congrArg some (by kernel_rfl))
  f128 := Try.func47.trans (congrArg some (by kernel_rfl))
  f129 := Try.func48.trans (congrArg some (by kernel_rfl))
  f189 := Try.func30.trans (congrArg some (by kernel_rfl))
  f215 := Try.func54.trans (congrArg some (by kernel_rfl))
  f216 := Try.func44.trans (congrArg some (by kernel_rfl))
  f257 := Try.func36.trans (congrArg some (by kernel_rfl))
  f294 := Try.func38.trans (congrArg some (by kernel_rfl))
  f295 := Try.func39.trans (congrArg some (by kernel_rfl))
  f296 := Try.func40.trans (congrArg some (by kernel_rfl))
  f297 := Try.func41.trans (congrArg some (by kernel_rfl))
  f298 := Try.func42.trans (congrArg some (by kernel_rfl))
  f299 := Try.func43.trans (congrArg some (by kernel_rfl))
  f300 := Try.func45.trans (congrArg some (by kernel_rfl))
  f301 := Try.func46.trans (congrArg some (by kernel_rfl))
  f328 := Try.func49.trans (congrArg some (by kernel_rfl))
  f329 := Try.func50.trans (congrArg some (by kernel_rfl))
  f330 := Try.func51.trans (congrArg some (by kernel_rfl))
  f331 := Try.func52.trans (congrArg some (by kernel_rfl))
  f332 := Try.func53.trans (congrArg some (by kernel_rfl))
  f343 := Try.func55.trans (congrArg some (by kernel_rfl))
  t0 := Try.underlying0
  a0 := Try.isAgg0
  z0 := Try.sizeOf0
  v0 := Try.zeroValue0
  t3 := Try.underlying3
  a3 := Try.isAgg3
  z3 := Try.sizeOf3
  v3 := Try.zeroValue3
  t4 := Try.underlying4
  a4 := Try.isAgg4
  z4 := Try.sizeOf4
  v4 := Try.zeroValue4
  t5 := Try.underlying5
  a5 := Try.isAgg5
  z5 := Try.sizeOf5
  v5 := Try.zeroValue5
  t9 := Try.underlying9
  a9 := Try.isAgg9
  z9 := Try.sizeOf9
  v9 := Try.zeroValue9
  t28 := Try.underlying22
  a28 := Try.isAgg22
  z28 := Try.sizeOf22
  v28 := Try.zeroValue22
  t46 := Try.underlying56
  a46 := Try.isAgg56
  z46 := Try.sizeOf56
  v46 := Try.zeroValue56
  t51 := Try.underlying67
  a51 := Try.isAgg67
  z51 := Try.sizeOf67
  v51 := Try.zeroValue67
  t53 := Try.underlying69
  a53 := Try.isAgg69
  z53 := Try.sizeOf69
  v53 := Try.zeroValue69
  t131 := Try.underlying64
  a131 := Try.isAgg64
  z131 := Try.sizeOf64
  v131 := Try.zeroValue64
  t182 := Try.underlying58
  a182 := Try.isAgg58
  z182 := Try.sizeOf58
  v182 := Try.zeroValue58
  t183 := Try.underlying59
  a183 := Try.isAgg59
  z183 := Try.sizeOf59
  v183 := Try.zeroValue59
  t218 := Try.underlying70
  a218 := Try.isAgg70
  z218 := Try.sizeOf70
  v218 := Try.zeroValue70
  t222 := Try.underlying74
  a222 := Try.isAgg74
  z222 := Try.sizeOf74
  v222 := Try.zeroValue74
  t228 := Try.underlying76
  a228 := Try.isAgg76
  z228 := Try.sizeOf76
  v228 := Try.zeroValue76
  t229 := Try.underlying77
  a229 := Try.isAgg77
  z229 := Try.sizeOf77
  v229 := Try.zeroValue77 }
def mCompact_ren : Go.Shelf.Ren := ⟨fun | 20 => 22 | n => n, fun | 22 => 22 | 3 => 3 | 4 => 4 | 0 => 0 | n => n, fun | n => n⟩
theorem mCompact : Go.Proofs.Lays2.n20 Try.prog mCompact_ren := {
  mixed := by kernel_rfl
  f20 := Try.func22.trans (congrArg some (by kernel_rfl))
  t0 := Try.underlying0
  a0 := Try.isAgg0
  z0 := Try.sizeOf0
  v0 := Try.zeroValue0
  t3 := Try.underlying3
  a3 := Try.isAgg3
  z3 := Try.sizeOf3
  v3 := Try.zeroValue3
  t4 := Try.underlying4
  a4 := Try.isAgg4
  z4 := Try.sizeOf4
  v4 := Try.zeroValue4
  t22 := Try.underlying22
  a22 := Try.isAgg22
  z22 := Try.sizeOf22
  v22 := Try.zeroValue22
  i3 := by kernel_rfl }
open Go.Vq
set_option maxRecDepth 1000000 in
theorem prims_ok : Vq.PrimsOk Try.prog prims := by
  intro f d h
  unfold prims at h
  split at h
  · rename_i hf
    subst hf
    cases h
    exact Vq.sort_ok (ρ := mSort_ren) mSort ⟨_, Try.func30, rfl, by kernel_rfl⟩
  split at h
  · rename_i hf
    subst hf
    cases h
    exact Vq.compact_ok (ρ := mCompact_ren) mCompact ⟨_, Try.func22, rfl, by kernel_rfl⟩
  split at h
  · rename_i hf
    subst hf
    cases h
    exact Vq.values_ok (S := 22) (e := 3) (Y := 51) (I := 3) (B := 4) Try.func31 rfl rfl rfl (by kernel_rfl) (by kernel_rfl) (by kernel_rfl) (by kernel_rfl) (by kernel_rfl) (by kernel_rfl) (by decide)
  cases h
end Go.Proofs.Ytmhpkajjomgbhaa
