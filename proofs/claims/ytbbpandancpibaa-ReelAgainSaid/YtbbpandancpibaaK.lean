/- The functions of this seat that are taken by their laws (no law of Go is stated here). -/
import Derived.Test.YtbbpandancpibaaV
import Derived.WalkKit
namespace Go.Proofs.Ytbbpandancpibaa
open Go.Vq
set_option maxRecDepth 1000000 in
theorem prims_ok : Vq.PrimsOk Try.prog prims := by
  intro f d h
  unfold prims at h
  split at h
  · rename_i hf
    subst hf
    cases h
    exact Vq.clone_ok (T := 31) (B := 4) (e := 5) Try.func51 rfl rfl rfl (by kernel_rfl) ⟨by kernel_rfl, ⟨_, (by kernel_rfl : Vq.under Try.prog 31 = some (.slice 5)), by intro k hk; cases hk⟩, by kernel_rfl, by kernel_rfl, ⟨_, (by kernel_rfl : Vq.zeroOf Try.prog 5 = some [.int .u8 0]), rfl⟩, by decide, by decide⟩
  split at h
  · rename_i hf
    subst hf
    cases h
    exact Vq.backward_ok (S := 83) (e := 100) (Y := 131) (I := 3) (B := 4) Try.func80 rfl rfl rfl (by kernel_rfl) (by kernel_rfl) (by kernel_rfl) (by kernel_rfl) (by kernel_rfl) (by kernel_rfl) (by decide)
  split at h
  · rename_i hf
    subst hf
    cases h
    exact Vq.backward_ok (S := 31) (e := 5) (Y := 142) (I := 3) (B := 4) Try.func88 rfl rfl rfl (by kernel_rfl) (by kernel_rfl) (by kernel_rfl) (by kernel_rfl) (by kernel_rfl) (by kernel_rfl) (by decide)
  split at h
  · rename_i hf
    subst hf
    cases h
    exact Vq.chunk_ok (S := 31) (e := 5) (Y := 140) (I := 3) (B := 4) Try.func85 rfl rfl rfl (by kernel_rfl) (by kernel_rfl) (by kernel_rfl) (by kernel_rfl) (by kernel_rfl) (by kernel_rfl) (by kernel_rfl) (by kernel_rfl) (by kernel_rfl)
  cases h
end Go.Proofs.Ytbbpandancpibaa
