/- What the proofs keep of the package variables that the library reads: their cells, as the row lays them. -/
import Derived.Test.YtdkcdgfjjppidaaDoorProg
import Derived.Below
import Derived.Lib.LaidTab
namespace Go.Proofs.YtdkcdgfjjppidaaDoor.XA
open Go.RowKit

structure GOK (w : World) : Prop where
  lt : 6 ≤ w.heap.size
  syn : ∃ ev, w.cell? ⟨3, 0, none⟩ = some ev ∧ (ev = .nilIface ∨ ∃ te pe, ev = .iface te pe)
  tz16 : w.cell? ⟨2, 15, none⟩ = some (.int .u8 4)

theorem GOK.step {w w' : World} (h : GOK w) (hb : Below w.heap.size w w') : GOK w' := by
  have hl := h.lt
  refine ⟨Nat.le_trans h.lt hb.size, ?_, ?_⟩
  · obtain ⟨ev, h1, h2⟩ := h.syn
    exact ⟨ev, by rw [hb.cell (Nat.lt_of_lt_of_le (by decide) hl)]; exact h1, h2⟩
  · rw [hb.cell (Nat.lt_of_lt_of_le (by decide) hl)]; exact h.tz16
theorem GOK.grown {w w' : World} {b : Nat} (h : GOK w) (hg : w.grownBy w' (some b)) (hb : 6 ≤ b) : GOK w' := by
  have hl := h.lt
  refine ⟨Nat.le_trans h.lt hg.size, ?_, ?_⟩
  · obtain ⟨ev, h1, h2⟩ := h.syn
    exact ⟨ev, hg.cell h1 (by simp; omega), h2⟩
  · exact hg.cell h.tz16 (by simp; omega)
end Go.Proofs.YtdkcdgfjjppidaaDoor.XA
