/- Small words on worlds: what changes in one block alone. -/
import Derived.Test.YtdkcdgfjjppidaaDoorProg
import Derived.Below
import Derived.Laws.AppendOwn
import Derived.Laws.Rows
import Derived.Deep.Draws
namespace Go.Proofs.YtdkcdgfjjppidaaDoor.LG
open Go.RowKit

theorem add_block (A : Addr) (i : Nat) : (A.add i).block = A.block := by
  unfold Addr.add
  split <;> rfl
theorem g_refl (w : World) (row : Option Nat) : w.grownBy w row := ⟨rfl, rfl, rfl, Nat.le_refl _, fun _ _ _ => rfl⟩
theorem g_trans {w w1 w2 : World} {row : Option Nat} (h : w.grownBy w1 row) (k : w1.grownBy w2 row) : w.grownBy w2 row :=
  ⟨k.os.trans h.os, k.tape.trans h.tape, k.output.trans h.output, Nat.le_trans h.size k.size, fun i hi hn => (k.block i (Nat.lt_of_lt_of_le hi h.size) hn).trans (h.block i hi hn)⟩
theorem g_drewN {w w1 : World} {row : Option Nat} (h : w.grownBy w1 row) (n : Nat) : w.grownBy (w1.drewN n) row := ⟨h.os, h.tape, h.output, h.size, h.block⟩
theorem g_drew {w w1 : World} {row : Option Nat} (h : w.grownBy w1 row) : w.grownBy w1.drew row := ⟨h.os, h.tape, h.output, h.size, h.block⟩
theorem g_set {w w1 : World} {b : Nat} (h : w.grownBy w1 (some b)) (i : Nat) (v : Value) : w.grownBy (w1.setCell ⟨b, i, none⟩ v) (some b) :=
  ⟨h.os, h.tape, h.output, by simp only [World.setCell, Array.size_modify]; exact h.size, fun k hk hn => (Below.heap_setCell w1 ⟨b, i, none⟩ v k (fun e => hn (by rw [e]))).trans (h.block k hk hn)⟩
theorem g_setNew {w w1 : World} {row : Option Nat} (h : w.grownBy w1 row) {p : Addr} (hp : w.heap.size ≤ p.block) (v : Value) : w.grownBy (w1.setCell p v) row :=
  ⟨h.os, h.tape, h.output, by simp only [World.setCell, Array.size_modify]; exact h.size, fun k hk hn => (Below.heap_setCell w1 p v k (fun e => by omega)).trans (h.block k hk hn)⟩
theorem g_below {w w1 w2 : World} {row : Option Nat} (h : w.grownBy w1 row) (k : Below w1.heap.size w1 w2) : w.grownBy w2 row :=
  ⟨k.os.trans h.os, k.tape.trans h.tape, k.output.trans h.output, Nat.le_trans h.size k.size, fun i hi hn => (k.block i (Nat.lt_of_lt_of_le hi h.size)).trans (h.block i hi hn)⟩
theorem g_alloc {w w1 : World} {row : Option Nat} (h : w.grownBy w1 row) (o : Obj) : w.grownBy (w1.alloc o) row :=
  g_below h ((Below.refl _ _).alloc (Nat.le_refl _) o)
theorem g_ofBelow {w w1 : World} {row : Option Nat} (k : Below w.heap.size w w1) : w.grownBy w1 row := g_below (g_refl _ _) k
/-- what grows in a row of the call's own -/
theorem g_row {w wr w3 : World} {rb row : Option Nat} (h : w.grownBy wr rb) (hg : wr.grownBy w3 row) (hrow : ∀ k, row = some k → w.heap.size ≤ k) : w.grownBy w3 rb :=
  ⟨hg.os.trans h.os, hg.tape.trans h.tape, hg.output.trans h.output, Nat.le_trans h.size hg.size, fun i hi hn => (hg.block i (Nat.lt_of_lt_of_le hi h.size) (fun e => by have := hrow i e.symm; omega)).trans (h.block i hi hn)⟩
/-- a row of cells, one cell written -/
theorem set_row {w : World} {b : Nat} {cs : Array Value} {T : TypeId} (h : w.heap[b]? = some (.cells cs T (0, 0))) (i : Nat) (v : Value) : (w.setCell ⟨b, i, none⟩ v).heap[b]? = some (.cells (cs.setIfInBounds i v) T (0, 0)) := heap_setCell_same w b i cs T v h
theorem set_other {w : World} {b b' : Nat} (hne : b' ≠ b) (i : Nat) (v : Value) : (w.setCell ⟨b, i, none⟩ v).heap[b']? = w.heap[b']? := Below.heap_setCell w ⟨b, i, none⟩ v b' hne
theorem lt_of_heap {w : World} {b : Nat} {o : Obj} (h : w.heap[b]? = some o) : b < w.heap.size := by
  rcases Nat.lt_or_ge b w.heap.size with h' | h'
  · exact h'
  · simp [Array.getElem?_eq_none h'] at h
end Go.Proofs.YtdkcdgfjjppidaaDoor.LG
