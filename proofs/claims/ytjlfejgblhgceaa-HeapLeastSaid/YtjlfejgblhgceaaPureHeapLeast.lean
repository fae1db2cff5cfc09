/- The law's walk has shown it all. -/
import Derived.Test.YtjlfejgblhgceaaDefHeapLeast
namespace Go.Proofs.Ytjlfejgblhgceaa.Pure
open Go.RowKit Go.Proofs.Ytjlfejgblhgceaa.PB
theorem HeapLeast : haulierlaw03_HeapLeast.Claim := by
  unfold haulierlaw03_HeapLeast.Claim
  intros
  rfl
end Go.Proofs.Ytjlfejgblhgceaa.Pure
