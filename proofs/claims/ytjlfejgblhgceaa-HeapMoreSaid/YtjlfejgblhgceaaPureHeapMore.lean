/- The law's walk has shown it all. -/
import Derived.Test.YtjlfejgblhgceaaDefHeapMore
namespace Go.Proofs.Ytjlfejgblhgceaa.Pure
open Go.RowKit Go.Proofs.Ytjlfejgblhgceaa.PB
theorem HeapMore : haulierlaw03_HeapMore.Claim := by
  unfold haulierlaw03_HeapMore.Claim
  intros
  rfl
end Go.Proofs.Ytjlfejgblhgceaa.Pure
