/- quote's reader: next, and what an escape's digits come to. -/
import Derived.Test.YtdkcdgfjjppidaaDoorQText
import Derived.Test.YtdkcdgfjjppidaaDoorLBuilder
import Derived.Test.YtdkcdgfjjppidaaDoorLGrown
import Derived.Outline
import Derived.Deep.QuietTactic
import Derived.BigQuiet
import Derived.WalkLawsBesides
import Derived.Laws.Rows
namespace Go.Proofs.YtdkcdgfjjppidaaDoor.XA
open Go.RowKit QS
open Go.Proofs.YtdkcdgfjjppidaaDoorW.PrintWords Go.Proofs.YtdkcdgfjjppidaaDoorW.PrintLast Go.Proofs.YtdkcdgfjjppidaaDoorW.PrintMore

/-- block b is a reader of the list at A, at place i -/
def RdrAt (w : World) (b : Nat) (A : Option Addr) (n c i : Nat) : Prop := w.heap[b]? = some (.cells #[.slice A n c, .int .i64 (i : Int)] 55 (0, 0))
/-- a panic with the error of number x -/
abbrev failedVal (x : Int) : Value := .iface 51 (.agg #[.int .i64 x])

theorem next_ok (A : Addr) (n c i b : Nat) (x : Int) (w : World) (hi : i < n) (hr : RdrAt w b (some A) n c i) (hx : w.cell? (A.add i) = some (.int .i64 x)) (hne : A.block ≠ b) (hn : n ≤ 1000000000) :
    Calls Tryd.prog 29 #[.pointer (some ⟨b, 0, none⟩)] w fun e w' => e = .returned (.int .i64 x) ∧ RdrAt w' b (some A) n c (i + 1) ∧ w.grownBy w' (some b) := by
  have c0 : w.cell? ⟨b, 0, none⟩ = some (.slice (some A) n c) := by rw [cell_of_row w b 0 _ _ _ hr]; rfl
  have c1 : w.cell? ⟨b, 1, none⟩ = some (.int .i64 i) := by rw [cell_of_row w b 1 _ _ _ hr]; rfl
  have f1 : w.frozen? ⟨b, 1, none⟩ = false := frozen_of_row w b 1 _ _ hr
  have HR := Lib.hid hr
  clear hr
  go_enter Tryd.func29, Tryd.ntmps29
  go_wp2
  go_quiet (fail)
  go_wp2
  have hx2 : ((w.drewN nq).setCell ⟨b, 1, none⟩ (.int .i64 ((i : Int) + 1))).cell? (A.add i) = some (.int .i64 x) := by
    rw [World.cell?_setCell_other _ _ _ _ (by intro h; exact hne ((LG.add_block A i).symm.trans (congrArg Addr.block h).symm))]
    exact hx
  go_quiet (fail)
  go_wp2
  go_ret
  exact ⟨rfl, LG.set_row HR.out 1 _, LG.g_drewN (LG.g_set (LG.g_drewN (LG.g_refl _ _) _) _ _) _⟩

theorem next_end (A : Option Addr) (n c i b : Nat) (w : World) (hi : n ≤ i) (hr : RdrAt w b A n c i)  :
    Calls Tryd.prog 29 #[.pointer (some ⟨b, 0, none⟩)] w fun e w' => e = .panicked [{ v := failedVal 5, recovered := false }] ∧ w.grownBy w' (some b) := by
  have c0 : w.cell? ⟨b, 0, none⟩ = some (.slice A n c) := by rw [cell_of_row w b 0 _ _ _ hr]; rfl
  have c1 : w.cell? ⟨b, 1, none⟩ = some (.int .i64 i) := by rw [cell_of_row w b 1 _ _ _ hr]; rfl
  clear hr
  go_enter Tryd.func29, Tryd.ntmps29
  go_wp2
  go_quiet (fail)
  go_wp2
  exact ⟨rfl, rfl, LG.g_drewN (LG.g_refl _ _) _⟩
end Go.Proofs.YtdkcdgfjjppidaaDoor.XA
