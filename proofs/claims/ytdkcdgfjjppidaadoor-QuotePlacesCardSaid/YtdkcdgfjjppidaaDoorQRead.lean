/- quote.Read: the character that stands at a place, as the plain function 'read' has it. -/
import Derived.Test.YtdkcdgfjjppidaaDoorQCatch
namespace Go.Proofs.YtdkcdgfjjppidaaDoor.XA
open Go.RowKit QS
open Go.Proofs.YtdkcdgfjjppidaaDoorW.PrintWords Go.Proofs.YtdkcdgfjjppidaaDoorW.PrintLast Go.Proofs.YtdkcdgfjjppidaaDoorW.PrintMore

def quote_Read.f (l : List Int) (i : Int) : Option (Int × Int × Int) := if l.length ≤ 1000000000 then some (read l i) else none

theorem src_of {w w' : World} {b : Nat} {A : Option Addr} {l : List Int} (hl : l.length ≤ 1000000000) (h : Kd.C (Kd.int .i64) w A l.length l) (hb : w.heap.size ≤ b) (hw : Below w.heap.size w w') : Src w' b A l :=
  ⟨fun i hi => by
    obtain ⟨ad, e0, hc⟩ := Kd.at_int h (i : Int) (by omega) (by omega)
    rw [Int.toNat_natCast] at hc
    have hlt := World.block_lt_of_cell? w _ hc
    refine ⟨ad, e0, (hw.cell hlt).trans hc, ?_⟩
    rw [LG.add_block] at hlt
    omega, hl⟩

theorem cell_at {w : World} {b : Nat} {v : Value} {T : TypeId} (h : w.heap[b]? = some (.cells #[v] T (0, 0))) : w.cell? ⟨b, 0, none⟩ = some v := cell_of_one h

theorem push_at (h : Array Obj) (o : Obj) (i : Nat) : (h.push o)[i]? = if i = h.size then some o else h[i]? := by
  rw [Array.getElem?_push]
theorem five (w : World) (o0 o1 o2 o3 o4 : Obj) : let W := ((((w.alloc o0).alloc o1).alloc o2).alloc o3).alloc o4
    W.heap[w.heap.size]? = some o0 ∧ W.heap[w.heap.size + 1]? = some o1 ∧ W.heap[w.heap.size + 2]? = some o2 ∧ W.heap[w.heap.size + 3]? = some o3 ∧ W.heap[w.heap.size + 4]? = some o4 ∧ Below w.heap.size w W := by
  intro W
  have e : ∀ i : Nat, W.heap[i]? = (((((w.heap.push o0).push o1).push o2).push o3).push o4)[i]? := fun _ => rfl
  have s : ∀ i : Nat, (((((w.heap.push o0).push o1).push o2).push o3).push o4)[i]? = if i = w.heap.size + 4 then some o4 else if i = w.heap.size + 3 then some o3 else if i = w.heap.size + 2 then some o2 else if i = w.heap.size + 1 then some o1 else if i = w.heap.size then some o0 else w.heap[i]? := by
    intro i
    simp only [push_at, Array.size_push]
  refine ⟨?_, ?_, ?_, ?_, ?_, ?_⟩
  · rw [e, s]; simp
  · rw [e, s]; simp
  · rw [e, s]; simp
  · rw [e, s]; simp
  · rw [e, s]; simp
  · exact (((((Below.refl _ _).alloc (Nat.le_refl _) _).alloc (by simp) _).alloc (by simp; omega) _).alloc (by simp; omega) _).alloc (by simp; omega) _

set_option maxHeartbeats 4000000 in
set_option maxRecDepth 100000 in
theorem read_out (A : Option Addr) (c : Nat) (l : List Int) (i : Int) (hi : i < 0 ∨ (l.length : Int) < i) (w : World) :
    Calls Tryd.prog 15 #[.slice A l.length c, .int .i64 i] w fun e w' => e = .returned (.tuple #[.int .i64 0, .int .i64 i, .int .i64 1]) ∧ Below w.heap.size w w' := by
  have hmf : ∀ (fn : Fn) (first cap : Array Value) (w : World), (Instr.makeFunc fn first cap).run Tryd.prog w = .ok (.func fn first cap) w := fun _ _ _ _ => rfl
  rcases hi with hi | hi
  · go_enter_defers Tryd.func15, Tryd.ntmps15
    go_wp2
    go_region
    go_wp2
    simp [bodyPostD, Leaves, results, Tryd.results15, go_sem]
    exact (((((Below.refl _ _).alloc (Nat.le_refl _) _).alloc (by simp) _).alloc (by simp; omega) _).alloc (by simp; omega) _).drew
  · go_enter_defers Tryd.func15, Tryd.ntmps15
    go_wp2
    go_region
    go_wp2
    simp [bodyPostD, Leaves, results, Tryd.results15, go_sem]
    exact (((((Below.refl _ _).alloc (Nat.le_refl _) _).alloc (by simp) _).alloc (by simp; omega) _).alloc (by simp; omega) _).drew

set_option maxHeartbeats 4000000 in
set_option maxRecDepth 100000 in
theorem read_in (A : Option Addr) (c : Nat) (l : List Int) (i : Nat) (hi : i ≤ l.length) (hl : l.length ≤ 1000000000) (w : World) (hG : GOK w) (hr : Kd.C (Kd.int .i64) w A l.length l) :
    Calls Tryd.prog 15 #[.slice A l.length c, .int .i64 i] w fun e w' => e = .returned (.tuple #[.int .i64 (read l i).1, .int .i64 (read l i).2.1, .int .i64 (read l i).2.2]) ∧ Below w.heap.size w w' := by
  have hmf : ∀ (fn : Fn) (first cap : Array Value) (w : World), (Instr.makeFunc fn first cap).run Tryd.prog w = .ok (.func fn first cap) w := fun _ _ _ _ => rfl
  have HG := Lib.hid hG
  have HR := Lib.hid hr
  clear hG hr
  go_enter_defers Tryd.func15, Tryd.ntmps15
  go_wp2_with fail
  have hF := five w (.cells #[.int .i64 (i : Int)] 3) (.cells #[.int .i64 0] 3) (.cells #[.int .i64 0] 3) (.cells #[.int .i64 0] 24) (.cells #[.slice A l.length c, .int .i64 (i : Int)] 55)
  simp only at hF
  generalize (((((w.alloc (.cells #[.int .i64 (i : Int)] 3)).alloc (.cells #[.int .i64 0] 3)).alloc (.cells #[.int .i64 0] 3)).alloc (.cells #[.int .i64 0] 24)).alloc (.cells #[.slice A l.length c, .int .i64 (i : Int)] 55)) = W at hF ⊢
  obtain ⟨h0, h1, h2, h3, h4, hB⟩ := hF
  have hsrc := src_of hl HR.out (show w.heap.size ≤ w.heap.size + 4 by omega) hB
  have hc := char_calls A c i (w.heap.size + 4) l W (HG.out.step hB) (by have := HG.out.lt; omega) h4 hsrc
  have HB := Lib.hid hB
  have H0 := Lib.hid h0
  have H1 := Lib.hid h1
  have H2 := Lib.hid h2
  have H3 := Lib.hid h3
  clear h0 h1 h2 h3 h4 hB hsrc
  refine hc.mono ?_
  rintro e w1 hce
  cases hr : char (l.drop i) with
  | inl p =>
    obtain ⟨v, k⟩ := p
    rw [hr] at hce
    obtain ⟨rfl, hrd, hg⟩ := hce
    have HE : Hid (read l i = (v, (i : Int) + k, 0)) := by
      show read l i = _
      unfold QS.read
      rw [if_neg (by omega), Int.toNat_natCast, hr]
    have HL : Hid (w.heap.size + 4 < w1.heap.size) := LG.lt_of_heap hrd
    have c1 : w1.cell? ⟨w.heap.size + 1, 0, none⟩ = some (.int .i64 0) := cell_of_one ((hg.block _ (LG.lt_of_heap H1.out) (by simp)).trans H1.out)
    have c2 : w1.cell? ⟨w.heap.size + 1 + 1, 0, none⟩ = some (.int .i64 0) := cell_of_one ((hg.block _ (LG.lt_of_heap H2.out) (by simp)).trans H2.out)
    have c3 : w1.cell? ⟨w.heap.size + 1 + 1 + 1, 0, none⟩ = some (.int .i64 0) := cell_of_one ((hg.block _ (LG.lt_of_heap H3.out) (by simp)).trans H3.out)
    have f1 : w1.frozen? ⟨w.heap.size + 1, 0, none⟩ = false := free_of_one ((hg.block _ (LG.lt_of_heap H1.out) (by simp)).trans H1.out)
    have f2 : w1.frozen? ⟨w.heap.size + 1 + 1, 0, none⟩ = false := free_of_one ((hg.block _ (LG.lt_of_heap H2.out) (by simp)).trans H2.out)
    have f3 : w1.frozen? ⟨w.heap.size + 1 + 1 + 1, 0, none⟩ = false := free_of_one ((hg.block _ (LG.lt_of_heap H3.out) (by simp)).trans H3.out)
    have c4 : w1.cell? ⟨w.heap.size + 1 + 1 + 1 + 1, 1, none⟩ = some (.int .i64 ((i + k : Nat) : Int)) := by
      have h := cell_of_row w1 (w.heap.size + 4) 1 _ _ _ hrd
      exact h
    have HB1 := Lib.hid (HB.out.grown hg (by have := HB.out.size; omega) (fun k e => by simp at e; omega))
    clear hrd hg hc hr
    go_wp2
    go_region
    go_wp2
    refine leaves_cons (f := 24) (args := #[.pointer (some ⟨w.heap.size, 0, none⟩), .pointer (some ⟨w.heap.size + 1, 0, none⟩), .pointer (some ⟨w.heap.size + 2, 0, none⟩), .pointer (some ⟨w.heap.size + 3, 0, none⟩)]) (by simp) (by simp [go_sem]) ?_
    refine (catch_idle w.heap.size _).mono ?_
    rintro e u' w2 ⟨rfl, rfl, rfl⟩
    have hsz := HB1.out.size
    have hsz2 : w.heap.size + 4 < w1.heap.size := HL.out
    refine ⟨.tuple #[.int .i64 v, .int .i64 (i + k : Int), .int .i64 0], ?_, ?_, ?_⟩
    · have q1 : w.heap.size + 1 < w1.heap.size := by omega
      have q2 : w.heap.size + 1 + 1 < w1.heap.size := by omega
      have q3 : w.heap.size + 1 + 1 + 1 < w1.heap.size := by omega
      clear hsz hsz2
      simp [results, Tryd.results15, go_sem, q1, q2, q3, c1, c2, c3]
    · rw [HE.out]
    · refine Below.alloc ?_ (by simp; omega) _
      exact (((HB1.out.setCell (p := ⟨w.heap.size + 1, 0, none⟩) (by show w.heap.size ≤ w.heap.size + 1; omega) _).setCell (p := ⟨w.heap.size + 1 + 1, 0, none⟩) (by show w.heap.size ≤ w.heap.size + 1 + 1; omega) _).setCell (p := ⟨w.heap.size + 1 + 1 + 1, 0, none⟩) (by show w.heap.size ≤ w.heap.size + 1 + 1 + 1; omega) _).drew
  | inr x =>
    rw [hr] at hce
    obtain ⟨rfl, hg⟩ := hce
    have HE : Hid (read l i = (0, (i : Int), x)) := by
      show read l i = _
      unfold QS.read
      rw [if_neg (by omega), Int.toNat_natCast, hr]
    have k0 := (hg.block _ (LG.lt_of_heap H0.out) (by simp)).trans H0.out
    have k1 := (hg.block _ (LG.lt_of_heap H1.out) (by simp)).trans H1.out
    have k2 := (hg.block _ (LG.lt_of_heap H2.out) (by simp)).trans H2.out
    have k3 := (hg.block _ (LG.lt_of_heap H3.out) (by simp)).trans H3.out
    have HB1 := Lib.hid (HB.out.grown hg (by have := HB.out.size; omega) (fun k e => by simp at e; omega))
    clear hg hc hr
    go_wp2
    refine leaves_cons (f := 24) (args := #[.pointer (some ⟨w.heap.size, 0, none⟩), .pointer (some ⟨w.heap.size + 1, 0, none⟩), .pointer (some ⟨w.heap.size + 2, 0, none⟩), .pointer (some ⟨w.heap.size + 3, 0, none⟩)]) (by simp) (by simp [go_sem]) ?_
    refine (catch_panicking w.heap.size i x _ _ _ [] _ k0 k1 k2 k3).mono ?_
    rintro e u' w2 ⟨rfl, rfl, d1, d2, d3, hb2⟩
    have d2' : w2.cell? ⟨w.heap.size + 1 + 1, 0, none⟩ = some (.int .i64 (i : Int)) := d2
    have d3' : w2.cell? ⟨w.heap.size + 1 + 1 + 1, 0, none⟩ = some (.int .i64 x) := d3
    refine ⟨.tuple #[.int .i64 0, .int .i64 i, .int .i64 x], by simp [results, Tryd.results15, go_sem, d1, d2', d3'], ?_, ?_⟩
    · rw [HE.out]
    · exact HB1.out.trans hb2

theorem quote_Read.calls (A0 : Option Addr) (c0 : Nat) (l0 : List Int) (a1 : Int) (r1 r2 r3 : Int) (w : World) (hG : GOK w) (hr0 : Kd.C (Kd.int .i64) w A0 l0.length l0) (_hc0 : l0.length ≤ c0) (h : quote_Read.f l0 a1 = some (r1, r2, r3)) :
    Calls Tryd.prog 15 #[.slice A0 l0.length c0, .int .i64 a1] w fun e w' => e = .returned (.tuple #[.int .i64 r1, .int .i64 r2, .int .i64 r3]) ∧ Below w.heap.size w w' := by
  unfold quote_Read.f at h
  by_cases hl : l0.length ≤ 1000000000
  rotate_left
  · rw [if_neg hl] at h; cases h
  rw [if_pos hl] at h
  have h := Option.some.inj h
  by_cases hi : a1 < 0 ∨ (l0.length : Int) < a1
  · have e : read l0 a1 = (0, a1, 1) := by unfold QS.read; rw [if_pos hi]
    rw [e] at h
    obtain ⟨rfl, rfl, rfl⟩ : 0 = r1 ∧ a1 = r2 ∧ 1 = r3 := by simpa using h
    exact read_out A0 c0 l0 a1 hi w
  · obtain ⟨i, rfl⟩ : ∃ i : Nat, a1 = i := ⟨a1.toNat, by omega⟩
    have k := read_in A0 c0 l0 i (by omega) hl w hG hr0
    rw [h] at k
    exact k
end Go.Proofs.YtdkcdgfjjppidaaDoor.XA
