/- The law's walk has shown it all. -/
import Derived.Test.YtjlfejgblhgceaaDefHeapRuns
namespace Go.Proofs.Ytjlfejgblhgceaa.Pure
open Go.RowKit Go.Proofs.Ytjlfejgblhgceaa.PB
theorem HeapRuns : haulierlaw03_HeapRuns.Claim := by
  unfold haulierlaw03_HeapRuns.Claim
  intros
  rfl
end Go.Proofs.Ytjlfejgblhgceaa.Pure
