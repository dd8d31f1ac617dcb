import Derived.Test.YtmnohhmnkmnikaaProg
import Derived.WalkKit
import Derived.Test.YtmnohhmnkmnikaaNats
import Derived.Test.YtmnohhmnkmnikaaWKept
import Derived.Test.YtmnohhmnkmnikaaWLast
import Derived.Laws.OwnMore
import Derived.Lib.Hide
import Derived.Handy
import Derived.RegionTactic
import Derived.BigRegion
/- Words on blocks of the heap, for walks. -/
set_option linter.unusedVariables false
namespace Go.Proofs.Ytmnohhmnkmnikaa.HeapKit
open Go.RowKit Go.Proofs.YtmnohhmnkmnikaaW.PrintWords
theorem bthen {w w1 w2 : World} (h : Below w.heap.size w w1) (k : Below w1.heap.size w1 w2) : Below w.heap.size w w2 := h.trans (k.mono h.size)
/-- A call's first boxes: one, two or three of them, and nothing older is touched. -/
structure B1 (W wx : World) (o1 : Obj) : Prop where
  b1 : wx.heap[W.heap.size]? = some o1
  be : Below W.heap.size W wx
structure B2 (W wx : World) (o1 o2 : Obj) : Prop where
  b1 : wx.heap[W.heap.size]? = some o1
  b2 : wx.heap[W.heap.size + 1]? = some o2
  be : Below W.heap.size W wx
structure B3 (W wx : World) (o1 o2 o3 : Obj) : Prop where
  b1 : wx.heap[W.heap.size]? = some o1
  b2 : wx.heap[W.heap.size + 1]? = some o2
  b3 : wx.heap[W.heap.size + 1 + 1]? = some o3
  be : Below W.heap.size W wx
section
variable {W wx w2 : World} {o1 o2 o3 : Obj}
theorem B1.step (h : B1 W wx o1) (hb : Below wx.heap.size wx w2) : B1 W w2 o1 := ⟨blk_below h.b1 hb, bthen h.be hb⟩
theorem B2.step (h : B2 W wx o1 o2) (hb : Below wx.heap.size wx w2) : B2 W w2 o1 o2 := ⟨blk_below h.b1 hb, blk_below h.b2 hb, bthen h.be hb⟩
theorem B3.step (h : B3 W wx o1 o2 o3) (hb : Below wx.heap.size wx w2) : B3 W w2 o1 o2 o3 := ⟨blk_below h.b1 hb, blk_below h.b2 hb, blk_below h.b3 hb, bthen h.be hb⟩
theorem B1.far (h : B1 W wx o1) {p : Addr} (hp : W.heap.size + 1 ≤ p.block) (u : Value) : B1 W (wx.setCell p u) o1 :=
  ⟨(Below.heap_setCell wx p u _ (by omega)).trans h.b1, h.be.setCell (by omega) u⟩
theorem B2.far (h : B2 W wx o1 o2) {p : Addr} (hp : W.heap.size + 2 ≤ p.block) (u : Value) : B2 W (wx.setCell p u) o1 o2 :=
  ⟨(Below.heap_setCell wx p u _ (by omega)).trans h.b1, (Below.heap_setCell wx p u _ (by omega)).trans h.b2, h.be.setCell (by omega) u⟩
theorem B3.far (h : B3 W wx o1 o2 o3) {p : Addr} (hp : W.heap.size + 3 ≤ p.block) (u : Value) : B3 W (wx.setCell p u) o1 o2 o3 :=
  ⟨(Below.heap_setCell wx p u _ (by omega)).trans h.b1, (Below.heap_setCell wx p u _ (by omega)).trans h.b2, (Below.heap_setCell wx p u _ (by omega)).trans h.b3, h.be.setCell (by omega) u⟩
theorem B1.size (h : B1 W wx o1) : W.heap.size + 1 ≤ wx.heap.size := blk_lt h.b1
theorem B2.size (h : B2 W wx o1 o2) : W.heap.size + 2 ≤ wx.heap.size := blk_lt h.b2
theorem B3.size (h : B3 W wx o1 o2 o3) : W.heap.size + 3 ≤ wx.heap.size := blk_lt h.b3
theorem b1_start (W : World) (o1 : Obj) : B1 W (W.alloc o1) o1 := ⟨blk_new _ _, below_alloc (Below.refl _ _) _⟩
theorem b2_start (W : World) (o1 o2 : Obj) : B2 W ((W.alloc o1).alloc o2) o1 o2 :=
  ⟨blk_alloc (blk_new _ _) _, by have := blk_new (W.alloc o1) o2; rwa [World.size_alloc] at this, below_alloc (below_alloc (Below.refl _ _) _) _⟩
theorem b3_start (W : World) (o1 o2 o3 : Obj) : B3 W (((W.alloc o1).alloc o2).alloc o3) o1 o2 o3 :=
  ⟨blk_alloc (blk_alloc (blk_new _ _) _) _, blk_alloc (b2_start W o1 o2).b2 _, by have := blk_new ((W.alloc o1).alloc o2) o3; rwa [World.size_alloc, World.size_alloc] at this, below_alloc (below_alloc (below_alloc (Below.refl _ _) _) _) _⟩
end
end Go.Proofs.Ytmnohhmnkmnikaa.HeapKit

