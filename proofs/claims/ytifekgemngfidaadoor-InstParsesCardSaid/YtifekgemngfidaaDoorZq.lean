/- Short names for what the printed texts say most often (a claim's files have at most 1,500,000 bytes together): tools/patches.py, shrink. -/
import Derived.Test.YtifekgemngfidaaDoorWWords
import Derived.Test.YtifekgemngfidaaDoorWLast
import Derived.Test.YtifekgemngfidaaDoorWMore
namespace Go.Proofs.YtifekgemngfidaaDoor
open Go.RowKit Go.Proofs.YtifekgemngfidaaDoorW.PrintWords Go.Proofs.YtifekgemngfidaaDoorW.PrintLast Go.Proofs.YtifekgemngfidaaDoorW.PrintMore
theorem zqa {w : World} {g : Nat} {o : Obj} (h : w.heap[g]? = some o) (n : Nat) : (w.drewN n).heap[g]? = some o := h
theorem zqb {w : World} {g : Nat} {o : Obj} (h : w.heap[g]? = some o) : w.drew.heap[g]? = some o := h
theorem zqc {w : World} {g : Nat} {o : Obj} (h : w.heap[g]? = some o) (o' : Obj) : (w.alloc o').heap[g]? = some o := blk_alloc h o'
theorem zqd {w : World} {g : Nat} {t : TypeId} {cs : Array Value} (h : w.heap[g]? = some (.cells cs t (0, 0))) (i : Nat) : w.frozen? ⟨g, i, none⟩ = false := blk_frozen h i
theorem zqe {w : World} {g : Nat} {t : TypeId} {cs : Array Value} (h : w.heap[g]? = some (.cells cs t (0, 0))) (i : Nat) : w.cell? ⟨g, i, none⟩ = cs[i]? := blk_cell h i
theorem zqf {B : Nat} {w W : World} (h : Below B w W) (n : Nat) : Below B w (W.drewN n) := pw_below_drewN h n
theorem zqg {w W : World} (h : Below w.heap.size w W) (o : Obj) : Below w.heap.size w (W.alloc o) := below_alloc h o
theorem zqh {base : Nat} {w W : World} (h : Below base w W) : Below base w W.drew := below_drew1 h
theorem zqi {p : Prop} (h : p) : Aside0 p := ⟨h⟩
theorem zqj {w : World} {n m : Nat} : (w.drewN n).drewN m = w.drewN (n + m) := World.drewN_drewN _ _ _
end Go.Proofs.YtifekgemngfidaaDoor
