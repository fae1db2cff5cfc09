/- The law's walk has shown it all. -/
import Derived.Test.YtjlfejgblhgceaaDefHeapOrder
namespace Go.Proofs.Ytjlfejgblhgceaa.Pure
open Go.RowKit Go.Proofs.Ytjlfejgblhgceaa.PB
theorem HeapOrder : haulierlaw03_HeapOrder.Claim := by
  unfold haulierlaw03_HeapOrder.Claim
  intros
  rfl
end Go.Proofs.Ytjlfejgblhgceaa.Pure
