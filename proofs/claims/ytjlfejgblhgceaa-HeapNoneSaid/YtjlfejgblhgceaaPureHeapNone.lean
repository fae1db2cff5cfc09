/- The law's walk has shown it all. -/
import Derived.Test.YtjlfejgblhgceaaDefHeapNone
namespace Go.Proofs.Ytjlfejgblhgceaa.Pure
open Go.RowKit Go.Proofs.Ytjlfejgblhgceaa.PB
theorem HeapNone : haulierlaw03_HeapNone.Claim := by
  unfold haulierlaw03_HeapNone.Claim
  intros
  rfl
end Go.Proofs.Ytjlfejgblhgceaa.Pure
