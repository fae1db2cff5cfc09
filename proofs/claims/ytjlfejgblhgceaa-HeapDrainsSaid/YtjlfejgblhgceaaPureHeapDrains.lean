/- The law's walk has shown it all. -/
import Derived.Test.YtjlfejgblhgceaaDefHeapDrains
namespace Go.Proofs.Ytjlfejgblhgceaa.Pure
open Go.RowKit Go.Proofs.Ytjlfejgblhgceaa.PB
theorem HeapDrains : haulierlaw03_HeapDrains.Claim := by
  unfold haulierlaw03_HeapDrains.Claim
  intros
  rfl
end Go.Proofs.Ytjlfejgblhgceaa.Pure
