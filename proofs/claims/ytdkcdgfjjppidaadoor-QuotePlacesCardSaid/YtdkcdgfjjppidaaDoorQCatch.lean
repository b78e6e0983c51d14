/- quote.Read's deferred closure: what it leaves where the reading failed, and where it did not. -/
import Derived.Test.YtdkcdgfjjppidaaDoorQChar
import Derived.Defers
import Derived.Recover
import Derived.RegionTactic
import Derived.ChangeAlike
import Derived.BigRegion
import Derived.OneCell
namespace Go.Proofs.YtdkcdgfjjppidaaDoor.XA
open Go.RowKit QS

theorem hta (x : Int) (W : World) : (Instr.typeAssert (.iface 51 (.agg #[.int .i64 x])) 20 51 true).run Tryd.prog W = .ok (.tuple #[.agg #[.int .i64 x], .bool true]) W := by rfl
theorem htn (W : World) : (Instr.typeAssert .nilIface 20 51 true).run Tryd.prog W = .ok (.tuple #[.agg #[.int .i64 0], .bool false]) W := by rfl

set_option maxHeartbeats 1000000 in
theorem catch_panicking (b0 : Nat) (i x : Int) (v1 v2 v3 : Value) (older : List PanicEntry) (w : World)
    (h0 : w.heap[b0]? = some (.cells #[.int .i64 i] 3 (0, 0))) (h1 : w.heap[b0 + 1]? = some (.cells #[v1] 3 (0, 0))) (h2 : w.heap[b0 + 2]? = some (.cells #[v2] 3 (0, 0))) (h3 : w.heap[b0 + 3]? = some (.cells #[v3] 24 (0, 0))) :
    CallsD Tryd.prog 24 #[.pointer (some ⟨b0, 0, none⟩), .pointer (some ⟨b0 + 1, 0, none⟩), .pointer (some ⟨b0 + 2, 0, none⟩), .pointer (some ⟨b0 + 3, 0, none⟩)] (.panicking ({ v := failedVal x, recovered := false } :: older)) w fun e u' w' =>
      e = .returned (.tuple #[]) ∧ u' = .panicking ({ v := failedVal x, recovered := true } :: older) ∧ (w'.cell? ⟨b0 + 1, 0, none⟩ = some (.int .i64 0) ∧ w'.cell? ⟨b0 + 2, 0, none⟩ = some (.int .i64 i) ∧ w'.cell? ⟨b0 + 3, 0, none⟩ = some (.int .i64 x) ∧ Below b0 w w') := by
  have hlt := LG.lt_of_heap h3
  have c0 := cell_of_one h0
  have c1 := cell_of_one h1
  have c2 := cell_of_one h2
  have c3 := cell_of_one h3
  have f1 := free_of_one h1
  have f2 := free_of_one h2
  have f3 := free_of_one h3
  clear h0 h1 h2 h3
  refine callsD_of_wpS Tryd.func24 rfl fun c₀ cs hu => ?_
  apply wpS_seq
  apply wpS_region
  simp [wpOpsS, go_sem, recoverD, hu, Tryd.ntmps24, Exit.thenS]
  refine wpS_of_wp ?_
  rw [show (#[Value.pointer (some ⟨b0, 0, none⟩), Value.pointer (some ⟨b0 + 1, 0, none⟩), Value.pointer (some ⟨b0 + 2, 0, none⟩), Value.pointer (some ⟨b0 + 3, 0, none⟩)] ++ ((Array.replicate 16 undef).setIfInBounds 3 (failedVal x)).setIfInBounds 0 (failedVal x)) = #[Value.pointer (some ⟨b0, 0, none⟩), Value.pointer (some ⟨b0 + 1, 0, none⟩), Value.pointer (some ⟨b0 + 2, 0, none⟩), Value.pointer (some ⟨b0 + 3, 0, none⟩), failedVal x, undef, undef, failedVal x, undef, undef, undef, undef, undef, undef, undef, undef, undef, undef, undef, undef] from rfl]
  have hta := hta
  go_wp2
  clear hu hta
  have d0 : (w.alloc (.cells #[.int .i64 x] 51)).cell? ⟨b0, 0, none⟩ = _ := (World.cell?_alloc_past _ _ _ (by omega)).trans c0
  have d1 : (w.alloc (.cells #[.int .i64 x] 51)).cell? ⟨b0 + 1, 0, none⟩ = _ := (World.cell?_alloc_past _ _ _ (by omega)).trans c1
  have d2 : (w.alloc (.cells #[.int .i64 x] 51)).cell? ⟨b0 + 2, 0, none⟩ = _ := (World.cell?_alloc_past _ _ _ (by omega)).trans c2
  have d3 : (w.alloc (.cells #[.int .i64 x] 51)).cell? ⟨b0 + 3, 0, none⟩ = _ := (World.cell?_alloc_past _ _ _ (by omega)).trans c3
  have g1 : (w.alloc (.cells #[.int .i64 x] 51)).frozen? ⟨b0 + 1, 0, none⟩ = _ := (World.frozen?_alloc_past _ _ _ (by omega)).trans f1
  have g2 : (w.alloc (.cells #[.int .i64 x] 51)).frozen? ⟨b0 + 2, 0, none⟩ = _ := (World.frozen?_alloc_past _ _ _ (by omega)).trans f2
  have g3 : (w.alloc (.cells #[.int .i64 x] 51)).frozen? ⟨b0 + 3, 0, none⟩ = _ := (World.frozen?_alloc_past _ _ _ (by omega)).trans f3
  have d4 : (w.alloc (.cells #[.int .i64 x] 51)).cell? ⟨w.heap.size, 0, none⟩ = some (.int .i64 x) := by simp [go_sem]
  clear c0 c1 c2 c3 f1 f2 f3
  have HBW := Lib.hid ((Below.refl b0 w).alloc (by omega) (.cells #[.int .i64 x] 51))
  generalize (w.alloc (.cells #[.int .i64 x] 51)) = W at *
  generalize w.heap.size = n at *
  go_region
  refine ⟨rfl, _, rfl, .tuple #[], by simp [results, Tryd.results24], rfl, rfl, ?_⟩
  refine ⟨?_, ?_, ?_, ?_⟩
  · rw [World.cell?_drew]
    go_simp
  · rw [World.cell?_drew]
    go_simp
  · rw [World.cell?_drew]
    go_simp
  · exact (((HBW.out.setCell (p := ⟨b0 + 1, 0, none⟩) (by show b0 ≤ b0 + 1; omega) _).setCell (p := ⟨b0 + 2, 0, none⟩) (by show b0 ≤ b0 + 2; omega) _).setCell (p := ⟨b0 + 3, 0, none⟩) (by show b0 ≤ b0 + 3; omega) _).drew

set_option maxHeartbeats 1000000 in
theorem catch_idle (b0 : Nat) (w : World) :
    CallsD Tryd.prog 24 #[.pointer (some ⟨b0, 0, none⟩), .pointer (some ⟨b0 + 1, 0, none⟩), .pointer (some ⟨b0 + 2, 0, none⟩), .pointer (some ⟨b0 + 3, 0, none⟩)] .returning w fun e u' w' =>
      e = .returned (.tuple #[]) ∧ u' = .returning ∧ w' = w.alloc (.cells #[.int .i64 0] 51) := by
  refine callsD_of_wpS Tryd.func24 rfl fun c₀ cs hu => ?_
  apply wpS_seq
  apply wpS_region
  simp [wpOpsS, go_sem, recoverD, hu, Tryd.ntmps24, Exit.thenS]
  refine wpS_of_wp ?_
  rw [show (#[Value.pointer (some ⟨b0, 0, none⟩), Value.pointer (some ⟨b0 + 1, 0, none⟩), Value.pointer (some ⟨b0 + 2, 0, none⟩), Value.pointer (some ⟨b0 + 3, 0, none⟩)] ++ ((Array.replicate 16 undef).setIfInBounds 3 .nilIface).setIfInBounds 0 .nilIface) = #[Value.pointer (some ⟨b0, 0, none⟩), Value.pointer (some ⟨b0 + 1, 0, none⟩), Value.pointer (some ⟨b0 + 2, 0, none⟩), Value.pointer (some ⟨b0 + 3, 0, none⟩), .nilIface, undef, undef, .nilIface, undef, undef, undef, undef, undef, undef, undef, undef, undef, undef, undef, undef] from rfl]
  have htn := htn
  go_wp2
  refine ⟨rfl, _, ?_, .tuple #[], by simp [results, Tryd.results24], rfl, rfl, rfl⟩
  cases c₀
  simp_all
end Go.Proofs.YtdkcdgfjjppidaaDoor.XA
