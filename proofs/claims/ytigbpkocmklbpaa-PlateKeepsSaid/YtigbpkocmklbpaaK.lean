/- The functions of this seat that are taken by their laws (no law of Go is stated here). -/
import Derived.Test.YtigbpkocmklbpaaV
import Derived.WalkKit
namespace Go.Proofs.Ytigbpkocmklbpaa
open Go.Vq
set_option maxRecDepth 1000000 in
theorem prims_ok : Vq.PrimsOk Try.prog prims := by
  intro f d h
  unfold prims at h
  split at h
  · rename_i hf
    subst hf
    cases h
    exact Vq.clone_ok (T := 24) (B := 4) (e := 5) Try.func53 rfl rfl rfl (by kernel_rfl) ⟨by kernel_rfl, ⟨_, (by kernel_rfl : Vq.under Try.prog 24 = some (.slice 5)), by intro k hk; cases hk⟩, by kernel_rfl, by kernel_rfl, ⟨_, (by kernel_rfl : Vq.zeroOf Try.prog 5 = some [.int .u8 0]), rfl⟩, by decide, by decide⟩
  split at h
  · rename_i hf
    subst hf
    cases h
    exact Vq.backward_ok (S := 90) (e := 95) (Y := 109) (I := 3) (B := 4) Try.func54 rfl rfl rfl (by kernel_rfl) (by kernel_rfl) (by kernel_rfl) (by kernel_rfl) (by kernel_rfl) (by kernel_rfl) (by decide)
  cases h
end Go.Proofs.Ytigbpkocmklbpaa
