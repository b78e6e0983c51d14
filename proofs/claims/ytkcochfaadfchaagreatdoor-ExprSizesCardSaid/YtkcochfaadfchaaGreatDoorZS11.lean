/- The law ExprSizes holds for every input: the row, tied to the program's text. -/
import Derived.Test.YtkcochfaadfchaaGreatDoorZS8
import Derived.Test.YtkcochfaadfchaaGreatDoorZS10
section
namespace Go.Proofs.YtkcochfaadfchaaGreatDoor.XA
set_option linter.unusedSimpArgs false
set_option linter.unusedVariables false
open Go.RowKit
open Go.Proofs.YtkcochfaadfchaaGreatDoorW.PrintWords Go.Proofs.YtkcochfaadfchaaGreatDoorW.PrintLast Go.Proofs.YtkcochfaadfchaaGreatDoorW.PrintMore
theorem two_C {W : World} {g : Nat} {a b : ES.Node} {A B : Option Addr} {c d : Nat} (h : W.heap[g]? = some (.cells #[.int .i64 a.f0, .string a.f1, .int .i64 a.f2, .int .i64 a.f3, .slice A a.f4.length c, .int .i64 b.f0, .string b.f1, .int .i64 b.f2, .int .i64 b.f3, .slice B b.f4.length d] 24 (0, 0)))
    (hA : Kd.C kNode W A a.f4.length a.f4) (la : a.f4.length ≤ c) (hB : Kd.C kNode W B b.f4.length b.f4) (lb : b.f4.length ≤ d) : Kd.C kNode W (some ⟨g, 0, none⟩) 2 [a, b] := by
  have hc := fun j => blk_cell h j
  refine ⟨rfl, by omega, fun _ => ⟨⟨g, 0, none⟩, rfl, fun j p hj => ?_⟩⟩
  have key : ∀ (k : Nat), (⟨g, 0, none⟩ : Addr).add k = ⟨g, k, none⟩ := fun k => by unfold Addr.add; by_cases h0 : k = 0 <;> simp [h0]
  match j with
  | 0 =>
    obtain rfl : a = p := by simpa using hj
    refine ⟨[.int .i64 a.f0, .string a.f1, .int .i64 a.f2, .int .i64 a.f3, .slice A a.f4.length c], rfl, k24_mk W a la hA, fun i u hi => ?_⟩
    have hi5 : i < 5 := (List.getElem?_eq_some_iff.1 hi).1
    rw [key]
    match i, hi5 with
    | 0, _ => exact (hc 0).trans hi
    | 1, _ => exact (hc 1).trans hi
    | 2, _ => exact (hc 2).trans hi
    | 3, _ => exact (hc 3).trans hi
    | 4, _ => exact (hc 4).trans hi
  | 1 =>
    obtain rfl : b = p := by simpa using hj
    refine ⟨[.int .i64 b.f0, .string b.f1, .int .i64 b.f2, .int .i64 b.f3, .slice B b.f4.length d], rfl, k24_mk W b lb hB, fun i u hi => ?_⟩
    have hi5 : i < 5 := (List.getElem?_eq_some_iff.1 hi).1
    rw [key]
    match i, hi5 with
    | 0, _ => exact (hc 5).trans hi
    | 1, _ => exact (hc 6).trans hi
    | 2, _ => exact (hc 7).trans hi
    | 3, _ => exact (hc 8).trans hi
    | 4, _ => exact (hc 9).trans hi
  | j + 2 => simp at hj
def VEnd (r : Int) (w : World) (e : Ending) (w' : World) : Prop := e = .returned (.int .i64 r) ∧ Below w.heap.size w w'
theorem mn_small (n : Nat) (h : n ≤ 1001) : mn 100000 (n : Int) = n := by
  unfold mn
  rw [if_pos (by omega)]
theorem sizeOf_calls (x : ES.Node) (hw : wfN x) (hn : ES.nodesN x ≤ 1001) (A : Option Addr) (c : Nat) (W : World) (h : Kd.C kNode W A x.f4.length x.f4) (hl : x.f4.length ≤ c) :
    Calls Tryz.prog 12 #[.agg #[.int .i64 x.f0, .string x.f1, .int .i64 x.f2, .int .i64 x.f3, .slice A x.f4.length c]] W (VEnd (ES.nodesN x) W) := by
  obtain ⟨K, hK⟩ := size_ev x hw
  have h2 := expr_Size.calls K x.f0 x.f1 x.f2 x.f3 A c x.f4 _ W h hl (hK K (Nat.le_refl _))
  rw [mn_small _ hn] at h2
  exact h2
set_option maxRecDepth 100000 in
set_option maxHeartbeats 16000000 in
theorem lawSizes_calls (a b : ES.Node) (A : Option Addr) (c : Nat) (B : Option Addr) (d : Nat) (w : World) (hG : GOK w) (hA : Kd.C kNode w A a.f4.length a.f4) (la : a.f4.length ≤ c) (hB : Kd.C kNode w B b.f4.length b.f4) (lb : b.f4.length ≤ d) (wa : wfN a) (wb : wfN b) :
    Calls Tryz.prog 5 #[.agg #[.int .i64 a.f0, .string a.f1, .int .i64 a.f2, .int .i64 a.f3, .slice A a.f4.length c], .agg #[.int .i64 b.f0, .string b.f1, .int .i64 b.f2, .int .i64 b.f3, .slice B b.f4.length d]] w (BEnd true w) := by
  have hT := Tryz.underlying24
  obtain ⟨va, ⟨Ka, hKa⟩, va0, va1, va2⟩ := weight_ev a wa
  obtain ⟨vb, ⟨Kb, hKb⟩, vb0, vb1, vb2⟩ := weight_ev b wb
  have HWA0 := Lib.hid (fun W' (h : Below w.heap.size w W') => caesuraref06_Weight.calls Ka a.f0 a.f1 a.f2 a.f3 A c a.f4 0 va W' (Kd.C_below hA h) la (hKa Ka (Nat.le_refl _)))
  have HWB0 := Lib.hid (fun W' (h : Below w.heap.size w W') => caesuraref06_Weight.calls Kb b.f0 b.f1 b.f2 b.f3 B d b.f4 0 vb W' (Kd.C_below hB h) lb (hKb Kb (Nat.le_refl _)))
  have HSA0 := Lib.hid (fun (hn : ES.nodesN a ≤ 1001) W' (h : Below w.heap.size w W') => sizeOf_calls a wa hn A c W' (Kd.C_below hA h) la)
  have HSB0 := Lib.hid (fun (hn : ES.nodesN b ≤ 1001) W' (h : Below w.heap.size w W') => sizeOf_calls b wb hn B d W' (Kd.C_below hB h) lb)
  have HAB0 := Lib.hid (fun W' (h : Below w.heap.size w W') => same_calls a b A c B d W' (Kd.C_below hA h) (Kd.C_below hB h))
  have HBA0 := Lib.hid (fun W' (h : Below w.heap.size w W') => same_calls b a B d A c W' (Kd.C_below hB h) (Kd.C_below hA h))
  have HCAB0 := Lib.hid (fun g W' (h : Below w.heap.size w W') hb => two_C (W := W') (g := g) (a := a) (b := b) (A := A) (B := B) (c := c) (d := d) hb (Kd.C_below hA h) la (Kd.C_below hB h) lb)
  have HCBA0 := Lib.hid (fun g W' (h : Below w.heap.size w W') hb => two_C (W := W') (g := g) (a := b) (b := a) (A := B) (B := A) (c := d) (d := c) hb (Kd.C_below hB h) lb (Kd.C_below hA h) la)
  have HCA0 := Lib.hid (fun W' (h : Below w.heap.size w W') => Kd.C_below hA h)
  have hwf2 : wfN ⟨9, ⟨#[]⟩, 0, 0, [a, b]⟩ := by
    rw [wfN, wfL, wfL, wfL]
    refine ⟨by decide, Nat.zero_le _, by decide, by decide, ?_, wa, wb, trivial⟩
    show 2 * 64 ≤ reachBytes
    unfold reachBytes; omega
  have HWF2 := Lib.hid hwf2
  have HN0 : Hid (va ≤ 2000 → (ES.nodesN a : Int) ≤ va) := Lib.hid va2
  have HN1 : Hid (vb ≤ 2000 → (ES.nodesN b : Int) ≤ vb) := Lib.hid vb2
  have HPA := Lib.hid (ES.nodesN_pos a)
  have HPB := Lib.hid (ES.nodesN_pos b)
  have HSI : Hid (ES.sameN a b = true → ES.nodesN a = ES.nodesN b) := Lib.hid (ES.sameN_nodes a b)
  have HSY : Hid (ES.sameN b a = ES.sameN a b) := Lib.hid (ES.sameN_symm b a)
  have hm0 : a.f4.length ≤ 9223372036854775807 := hA.2.1
  have hm1 : b.f4.length ≤ 9223372036854775807 := hB.2.1
  have HAL := Lib.hid (fun W' (h : Below w.heap.size w W') => alive_calls W' (hG.step h))
  have HNN : Hid (ES.nodesN ⟨9, ⟨#[]⟩, 0, 0, [a, b]⟩ = ES.nodesN a + ES.nodesN b + 1) := Lib.hid (by rw [ES.nodesN, ES.nodesL, ES.nodesL, ES.nodesL]; omega)
  have HSN : Hid (ES.sameN a ⟨9, ⟨#[]⟩, 0, 0, [a, b]⟩ = false) := Lib.hid (by
    cases h : ES.sameN a ⟨9, ⟨#[]⟩, 0, 0, [a, b]⟩ with
    | false => rfl
    | true => have := ES.sameN_nodes _ _ h; rw [HNN.out] at this; omega)
  have HS1 : Hid (ES.sameN ⟨9, ⟨#[]⟩, 0, 0, [a, b]⟩ ⟨9, ⟨#[]⟩, 0, 0, [a, b]⟩ = true) := Lib.hid (ES.sameN_refl _)
  have HS2 : Hid (ES.sameN ⟨9, ⟨#[]⟩, 0, 0, [a, b]⟩ ⟨9, ⟨#[]⟩, 0, 0, [b, a]⟩ = ES.sameN a b) := Lib.hid (by rw [ES.same_two, ES.sameN_symm b a, Bool.and_self])
  obtain ⟨na, hna⟩ : ∃ n, ES.nodesN a = n := ⟨_, rfl⟩
  obtain ⟨nb, hnb⟩ : ∃ n, ES.nodesN b = n := ⟨_, rfl⟩
  obtain ⟨s, hs⟩ : ∃ s, ES.sameN a b = s := ⟨_, rfl⟩
  rw [hna] at HSA0 HN0 HPA HSI HNN
  rw [hnb] at HSB0 HN1 HPB HSI HNN
  rw [hs] at HAB0 HSI HSY HS2
  -- what is called, in names
  have HB2 : Hid (∀ g W', Below w.heap.size w W' → W'.heap[g]? = some (.cells #[.int .i64 a.f0, .string a.f1, .int .i64 a.f2, .int .i64 a.f3, .slice A a.f4.length c, .int .i64 b.f0, .string b.f1, .int .i64 b.f2, .int .i64 b.f3, .slice B b.f4.length d] 24 (0, 0)) → na + nb + 1 ≤ 1001 →
      Calls Tryz.prog 12 #[.agg #[.int .i64 9, .string ⟨#[]⟩, .int .i64 0, .int .i64 0, .slice (some ⟨g, 0, none⟩) 2 2]] W' (VEnd ((na : Int) + (nb : Int) + 1) W')) := Lib.hid (fun g W' h hb hn => by
    have h2 := sizeOf_calls ⟨9, ⟨#[]⟩, 0, 0, [a, b]⟩ HWF2.out (by rw [HNN.out]; exact hn) (some ⟨g, 0, none⟩) 2 W' (HCAB0.out g W' h hb) (Nat.le_refl 2)
    rw [HNN.out, show (((na + nb + 1 : Nat)) : Int) = (na : Int) + (nb : Int) + 1 by omega] at h2
    exact h2)
  have HA3 : Hid (∀ g W', Below w.heap.size w W' → W'.heap[g]? = some (.cells #[.int .i64 a.f0, .string a.f1, .int .i64 a.f2, .int .i64 a.f3, .slice A a.f4.length c, .int .i64 b.f0, .string b.f1, .int .i64 b.f2, .int .i64 b.f3, .slice B b.f4.length d] 24 (0, 0)) →
      Calls Tryz.prog 10 #[.agg #[.int .i64 a.f0, .string a.f1, .int .i64 a.f2, .int .i64 a.f3, .slice A a.f4.length c], .agg #[.int .i64 9, .string ⟨#[]⟩, .int .i64 0, .int .i64 0, .slice (some ⟨g, 0, none⟩) 2 2]] W' (BEnd false W')) := Lib.hid (fun g W' h hb => by
    have h2 := same_calls a ⟨9, ⟨#[]⟩, 0, 0, [a, b]⟩ A c (some ⟨g, 0, none⟩) 2 W' (HCA0.out W' h) (HCAB0.out g W' h hb)
    rw [HSN.out] at h2
    exact h2)
  have HA4 : Hid (∀ g g' W', Below w.heap.size w W' → W'.heap[g]? = some (.cells #[.int .i64 a.f0, .string a.f1, .int .i64 a.f2, .int .i64 a.f3, .slice A a.f4.length c, .int .i64 b.f0, .string b.f1, .int .i64 b.f2, .int .i64 b.f3, .slice B b.f4.length d] 24 (0, 0)) → W'.heap[g']? = some (.cells #[.int .i64 a.f0, .string a.f1, .int .i64 a.f2, .int .i64 a.f3, .slice A a.f4.length c, .int .i64 b.f0, .string b.f1, .int .i64 b.f2, .int .i64 b.f3, .slice B b.f4.length d] 24 (0, 0)) →
      Calls Tryz.prog 10 #[.agg #[.int .i64 9, .string ⟨#[]⟩, .int .i64 0, .int .i64 0, .slice (some ⟨g, 0, none⟩) 2 2], .agg #[.int .i64 9, .string ⟨#[]⟩, .int .i64 0, .int .i64 0, .slice (some ⟨g', 0, none⟩) 2 2]] W' (BEnd true W')) := Lib.hid (fun g g' W' h hb hb' => by
    have h2 := same_calls ⟨9, ⟨#[]⟩, 0, 0, [a, b]⟩ ⟨9, ⟨#[]⟩, 0, 0, [a, b]⟩ (some ⟨g, 0, none⟩) 2 (some ⟨g', 0, none⟩) 2 W' (HCAB0.out g W' h hb) (HCAB0.out g' W' h hb')
    rw [HS1.out] at h2
    exact h2)
  have HA5 : Hid (∀ g g' W', Below w.heap.size w W' → W'.heap[g]? = some (.cells #[.int .i64 a.f0, .string a.f1, .int .i64 a.f2, .int .i64 a.f3, .slice A a.f4.length c, .int .i64 b.f0, .string b.f1, .int .i64 b.f2, .int .i64 b.f3, .slice B b.f4.length d] 24 (0, 0)) → W'.heap[g']? = some (.cells #[.int .i64 b.f0, .string b.f1, .int .i64 b.f2, .int .i64 b.f3, .slice B b.f4.length d, .int .i64 a.f0, .string a.f1, .int .i64 a.f2, .int .i64 a.f3, .slice A a.f4.length c] 24 (0, 0)) →
      Calls Tryz.prog 10 #[.agg #[.int .i64 9, .string ⟨#[]⟩, .int .i64 0, .int .i64 0, .slice (some ⟨g, 0, none⟩) 2 2], .agg #[.int .i64 9, .string ⟨#[]⟩, .int .i64 0, .int .i64 0, .slice (some ⟨g', 0, none⟩) 2 2]] W' (BEnd s W')) := Lib.hid (fun g g' W' h hb hb' => by
    have h2 := same_calls ⟨9, ⟨#[]⟩, 0, 0, [a, b]⟩ ⟨9, ⟨#[]⟩, 0, 0, [b, a]⟩ (some ⟨g, 0, none⟩) 2 (some ⟨g', 0, none⟩) 2 W' (HCAB0.out g W' h hb) (HCBA0.out g' W' h hb')
    rw [HS2.out] at h2
    exact h2)
  have HBA1 : Hid (∀ W', Below w.heap.size w W' → Calls Tryz.prog 10 #[.agg #[.int .i64 b.f0, .string b.f1, .int .i64 b.f2, .int .i64 b.f3, .slice B b.f4.length d], .agg #[.int .i64 a.f0, .string a.f1, .int .i64 a.f2, .int .i64 a.f3, .slice A a.f4.length c]] W' (BEnd s W')) := Lib.hid (fun W' h => by
    have h2 := HBA0.out W' h
    rw [HSY.out] at h2
    exact h2)
  clear HBA0 HCAB0 HCBA0 HCA0 HWF2 hwf2 HSN HS1 HS2 HSY HNN hs hna hnb va2 vb2 hG wa wb hKa hKb hA hB la lb
  obtain ⟨a0, a1, a2, a3, ak⟩ := a
  obtain ⟨b0, b1, b2, b3, bk⟩ := b
  dsimp only at HWA0 HWB0 HSA0 HSB0 HAB0 HB2 HA3 HA4 HA5 HBA1 hm0 hm1 ⊢
  obtain ⟨u, hu⟩ : ∃ u, ak.length = u := ⟨_, rfl⟩
  obtain ⟨v, hv⟩ : ∃ v, bk.length = v := ⟨_, rfl⟩
  rw [hu] at HWA0 HSA0 HAB0 HB2 HA3 HA4 HA5 HBA1 hm0 ⊢
  rw [hv] at HWB0 HSB0 HAB0 HB2 HA3 HA4 HA5 HBA1 hm1 ⊢
  clear hu hv
  obtain ⟨W, hW⟩ : ∃ W, (w.alloc (.cells #[.int .i64 a0, .string a1, .int .i64 a2, .int .i64 a3, .slice A u c] 24)).alloc (.cells #[.int .i64 b0, .string b1, .int .i64 b2, .int .i64 b3, .slice B v d] 24) = W := ⟨_, rfl⟩
  have h2 := two_blocks w (.cells #[.int .i64 a0, .string a1, .int .i64 a2, .int .i64 a3, .slice A u c] 24) (.cells #[.int .i64 b0, .string b1, .int .i64 b2, .int .i64 b3, .slice B v d] 24)
  rw [hW] at h2
  have HBW := Lib.hid h2.2.2
  have HAL2 := Lib.hid (HAL.out W HBW.out)
  have N0 := Lib.hid h2.1
  have N1 := Lib.hid h2.2.1
  have HW := Lib.hid hW
  clear h2 hW HAL
  go_enter Tryz.func5, Tryz.ntmps5
  go_upto_region 1 with fail
  rw [HW.out]
  go_wp2_with (go_at_call 7; refine HAL2.out.mono ?_)
  rintro e w1 ⟨rfl, hb⟩
  have HD1 := Lib.hid (HBW.out.trans (hb.mono HBW.out.size))
  have M0 := Lib.hid ((hb.block _ (blk_lt N0.out)).trans N0.out)
  have M1 := Lib.hid ((hb.block _ (blk_lt N1.out)).trans N1.out)
  clear hb N0 N1 HBW
  have N0 := M0
  have N1 := M1
  clear M0 M1
  have HWA := Lib.hid (HWA0.out w1 HD1.out)
  clear HAL2 HWA0
  have n0 := (blk_cell N0.out 0).trans rfl
  have m0 := (blk_cell N1.out 0).trans rfl
  have n1 := (blk_cell N0.out 1).trans rfl
  have m1 := (blk_cell N1.out 1).trans rfl
  have n2 := (blk_cell N0.out 2).trans rfl
  have m2 := (blk_cell N1.out 2).trans rfl
  have n3 := (blk_cell N0.out 3).trans rfl
  have m3 := (blk_cell N1.out 3).trans rfl
  have n4 := (blk_cell N0.out 4).trans rfl
  have m4 := (blk_cell N1.out 4).trans rfl
  by_cases h5 : 500 < va
  · have p1 : decide (500 < va) = true := decide_eq_true h5
    have p2 : ((500 : Int) < va) = True := eq_true h5
    have p3 : decide (va > 500) = true := decide_eq_true h5
    clear h5
    go_wp2_with (go_at_call 8; refine HWA.out.mono ?_)
    rintro e w2 ⟨rfl, hb⟩
    have HD2 := Lib.hid (HD1.out.trans (hb.mono HD1.out.size))
    clear hb
    go_wp2
    go_ret
    exact BEnd.mk rfl HD2.out
  have p1 : decide (500 < va) = false := decide_eq_false h5
  have p2 : ((500 : Int) < va) = False := eq_false h5
  have p3 : decide (va > 500) = false := decide_eq_false h5
  have hna : na ≤ 500 := by have := HN0.out (by omega); omega
  clear h5 HN0
  go_wp2_with (go_at_call 8; refine HWA.out.mono ?_)
  clear n0 m0 n1 m1 n2 m2 n3 m3 n4 m4
  rintro e w2 ⟨rfl, hb⟩
  have HD2 := Lib.hid (HD1.out.trans (hb.mono HD1.out.size))
  have M0 := Lib.hid ((hb.block _ (blk_lt N0.out)).trans N0.out)
  have M1 := Lib.hid ((hb.block _ (blk_lt N1.out)).trans N1.out)
  clear hb N0 N1 HD1
  have N0 := M0
  have N1 := M1
  clear M0 M1
  have HWB := Lib.hid (HWB0.out w2 HD2.out)
  clear HWA HWB0
  have n0 := (blk_cell N0.out 0).trans rfl
  have m0 := (blk_cell N1.out 0).trans rfl
  have n1 := (blk_cell N0.out 1).trans rfl
  have m1 := (blk_cell N1.out 1).trans rfl
  have n2 := (blk_cell N0.out 2).trans rfl
  have m2 := (blk_cell N1.out 2).trans rfl
  have n3 := (blk_cell N0.out 3).trans rfl
  have m3 := (blk_cell N1.out 3).trans rfl
  have n4 := (blk_cell N0.out 4).trans rfl
  have m4 := (blk_cell N1.out 4).trans rfl
  try dsimp only
  by_cases h6 : 500 < vb
  · have r1 : decide (500 < vb) = true := decide_eq_true h6
    have r2 : ((500 : Int) < vb) = True := eq_true h6
    have r3 : decide (vb > 500) = true := decide_eq_true h6
    clear h6
    go_wp2_with (go_at_call 8; refine HWB.out.mono ?_)
    rintro e w3 ⟨rfl, hb⟩
    have HD3 := Lib.hid (HD2.out.trans (hb.mono HD2.out.size))
    clear hb
    try dsimp only
    go_wp2
    go_ret
    exact BEnd.mk rfl HD3.out
  have r1 : decide (500 < vb) = false := decide_eq_false h6
  have r2 : ((500 : Int) < vb) = False := eq_false h6
  have r3 : decide (vb > 500) = false := decide_eq_false h6
  have hnb : nb ≤ 500 := by have := HN1.out (by omega); omega
  clear h6 HN1
  go_wp2_with (go_at_call 8; refine HWB.out.mono ?_)
  clear n0 m0 n1 m1 n2 m2 n3 m3 n4 m4
  rintro e w3 ⟨rfl, hb⟩
  have HD3 := Lib.hid (HD2.out.trans (hb.mono HD2.out.size))
  have M0 := Lib.hid ((hb.block _ (blk_lt N0.out)).trans N0.out)
  have M1 := Lib.hid ((hb.block _ (blk_lt N1.out)).trans N1.out)
  clear hb N0 N1 HD2
  have N0 := M0
  have N1 := M1
  clear M0 M1
  have HSA := Lib.hid (HSA0.out (by omega))
  have HSB := Lib.hid (HSB0.out (by omega))
  clear HWB HSA0 HSB0
  have n0 := (blk_cell N0.out 0).trans rfl
  have m0 := (blk_cell N1.out 0).trans rfl
  have n1 := (blk_cell N0.out 1).trans rfl
  have m1 := (blk_cell N1.out 1).trans rfl
  have n2 := (blk_cell N0.out 2).trans rfl
  have m2 := (blk_cell N1.out 2).trans rfl
  have n3 := (blk_cell N0.out 3).trans rfl
  have m3 := (blk_cell N1.out 3).trans rfl
  have n4 := (blk_cell N0.out 4).trans rfl
  have m4 := (blk_cell N1.out 4).trans rfl
  try dsimp only
  go_upto_region 5 with fail
  clear p1 p2 p3 r1 r2 r3
  have HD : Hid (Below w.heap.size w w3.drew) := Lib.hid HD3.out.drew
  have D0 := Lib.hid ((show w3.drew.heap[w.heap.size]? = w3.heap[w.heap.size]? from rfl).trans N0.out)
  have D1 := Lib.hid ((show w3.drew.heap[w.heap.size + 1]? = w3.heap[w.heap.size + 1]? from rfl).trans N1.out)
  clear HD3 N0 N1
  refine start_ (n := 6) (S := fun w' => w'.cell? ⟨w.heap.size, 0, none⟩ = some (.int .i64 a0) ∧ w'.cell? ⟨w.heap.size, 1, none⟩ = some (.string a1) ∧ w'.cell? ⟨w.heap.size, 2, none⟩ = some (.int .i64 a2) ∧ w'.cell? ⟨w.heap.size, 3, none⟩ = some (.int .i64 a3) ∧ w'.cell? ⟨w.heap.size, 4, none⟩ = some (.slice A u c) ∧ w'.cell? ⟨w.heap.size + 1, 0, none⟩ = some (.int .i64 b0) ∧ w'.cell? ⟨w.heap.size + 1, 1, none⟩ = some (.string b1) ∧ w'.cell? ⟨w.heap.size + 1, 2, none⟩ = some (.int .i64 b2) ∧ w'.cell? ⟨w.heap.size + 1, 3, none⟩ = some (.int .i64 b3) ∧ w'.cell? ⟨w.heap.size + 1, 4, none⟩ = some (.slice B v d)) (ds := [3]) #[false, false, false, false, false, false] (by kernel_rfl) rfl rfl ⟨n0, n1, n2, n3, n4, m0, m1, m2, m3, m4⟩ (fun hHeld => ?_)
  generalize w3.drew = wd at HD D0 D1 n0 n1 n2 n3 n4 m0 m1 m2 m3 m4 hHeld ⊢
  refine take_ (i := 0) (N := some 19) (v := ?_) (a' := ?_) #[true, false, false, false, false, false] rfl rfl (by kernel_rfl) (fun _ _ _ h => h) (Or.inl ⟨by rfl, ?_⟩) hHeld ?_ ?_
  rotate_left
  · rintro w' ⟨s0, s1, s2, s3, s4, s5, s6, s7, s8, s9⟩
    go_simp
    with_reducible rfl
  rotate_left
  · simp only [Act.put, List.setIfInBounds_toArray, List.set_cons_zero, List.set_cons_succ, i64_w, i32_w]
    rfl
  refine take_ (i := 2) (N := some 21) (v := ?_) (a' := ?_) #[true, false, true, false, false, false] rfl rfl (by kernel_rfl) (fun _ _ _ h => h) (Or.inl ⟨by rfl, ?_⟩) hHeld ?_ ?_
  rotate_left
  · rintro w' ⟨s0, s1, s2, s3, s4, s5, s6, s7, s8, s9⟩
    go_simp
    with_reducible rfl
  rotate_left
  · simp only [Act.put, List.setIfInBounds_toArray, List.set_cons_zero, List.set_cons_succ, i64_w, i32_w]
    rfl
  refine one_ (i := 1) (N := some 20) #[true, true, true, false, false, false] rfl rfl (by kernel_rfl) (by decide) (fun K hK => ?_)
  refine goes_ Tryz.func12 (by kernel_rfl) rfl #[.agg #[.int .i64 a0, .string a1, .int .i64 a2, .int .i64 a3, .slice A u c]] (by rfl) rfl rfl (by simp only [List.map_toArray, List.map_cons, List.map_nil]; rfl) ?_
  with_reducible refine (HSA.out _ HD.out).mono ?_
  rintro e w4 ⟨rfl, hb4⟩
  refine ⟨_, rfl, ?_⟩
  have HD4 := Lib.hid (HD.out.trans (hb4.mono HD.out.size))
  have E0 := Lib.hid ((hb4.block _ (blk_lt D0.out)).trans D0.out)
  have E1 := Lib.hid ((hb4.block _ (blk_lt D1.out)).trans D1.out)
  clear hb4
  refine hK.out _ _ ⟨(blk_cell E0.out 0).trans rfl, (blk_cell E0.out 1).trans rfl, (blk_cell E0.out 2).trans rfl, (blk_cell E0.out 3).trans rfl, (blk_cell E0.out 4).trans rfl, (blk_cell E1.out 0).trans rfl, (blk_cell E1.out 1).trans rfl, (blk_cell E1.out 2).trans rfl, (blk_cell E1.out 3).trans rfl, (blk_cell E1.out 4).trans rfl⟩ (fun hHeld => ?_)
  clear hK K
  refine norm_ (a' := ?_) ?_ ?_
  rotate_left
  · show Act.put _ (some 20) _ = _
    simp only [Act.put, List.setIfInBounds_toArray, List.set_cons_zero, List.set_cons_succ, i64_w, i32_w]
    rfl
  refine last_ (i := 3) (N := some 22) #[true, true, true, true, false, false] rfl rfl (by kernel_rfl) (by decide) (fun K hK => ?_)
  refine goes_ Tryz.func12 (by kernel_rfl) rfl #[.agg #[.int .i64 b0, .string b1, .int .i64 b2, .int .i64 b3, .slice B v d]] (by rfl) rfl rfl (by simp only [List.map_toArray, List.map_cons, List.map_nil]; rfl) ?_
  with_reducible refine (HSB.out _ HD4.out).mono ?_
  rintro e w5 ⟨rfl, hb5⟩
  refine ⟨_, rfl, ?_⟩
  have HD5 := Lib.hid (HD4.out.trans (hb5.mono HD4.out.size))
  have N0 := Lib.hid ((hb5.block _ (blk_lt E0.out)).trans E0.out)
  have N1 := Lib.hid ((hb5.block _ (blk_lt E1.out)).trans E1.out)
  clear hb5
  refine hK.out _ _ ?_
  clear hK K
  refine norm_ (a' := ?_) ?_ ?_
  rotate_left
  · show Act.put _ (some 22) _ = _
    simp only [Act.put, List.setIfInBounds_toArray, List.set_cons_zero, List.set_cons_succ, i64_w, i32_w]
    rfl
  refine pure_ (i := 4) (N := some 5) (v := ?_) (a' := ?_) #[true, true, true, true, true, false] rfl rfl (by kernel_rfl) (fun _ _ _ h => h) (Or.inl ⟨by rfl, ?_⟩) ?_ ?_
  rotate_left
  · intro w'
    go_simp
    with_reducible rfl
  rotate_left
  · simp only [Act.put, List.setIfInBounds_toArray, List.set_cons_zero, List.set_cons_succ, i64_w, i32_w]
    rfl
  refine pure_ (i := 5) (N := some 6) (v := ?_) (a' := ?_) #[true, true, true, true, true, true] rfl rfl (by kernel_rfl) (fun _ _ _ h => h) (Or.inl ⟨by rfl, ?_⟩) ?_ ?_
  rotate_left
  · intro w'
    go_simp
    with_reducible rfl
  rotate_left
  · simp only [Act.put, List.setIfInBounds_toArray, List.set_cons_zero, List.set_cons_succ, i64_w, i32_w]
    rfl
  refine done_ (by kernel_rfl) ?_
  clear n0 n1 n2 n3 n4 m0 m1 m2 m3 m4
  have n0 := (blk_cell N0.out 0).trans rfl
  have m0 := (blk_cell N1.out 0).trans rfl
  have n1 := (blk_cell N0.out 1).trans rfl
  have m1 := (blk_cell N1.out 1).trans rfl
  have n2 := (blk_cell N0.out 2).trans rfl
  have m2 := (blk_cell N1.out 2).trans rfl
  have n3 := (blk_cell N0.out 3).trans rfl
  have m3 := (blk_cell N1.out 3).trans rfl
  have n4 := (blk_cell N0.out 4).trans rfl
  have m4 := (blk_cell N1.out 4).trans rfl
  try dsimp only
  go_upto_region 7 with fail
  have h7 := two_blocks w5 (.cells #[.int .i64 a0, .string a1, .int .i64 a2, .int .i64 a3, .slice A u c, .int .i64 b0, .string b1, .int .i64 b2, .int .i64 b3, .slice B v d] 24) (.cells #[.int .i64 9, .string ⟨#[]⟩, .int .i64 0, .int .i64 0, .slice (some ⟨w5.heap.size, 0, none⟩) 2 2] 24)
  have HD7 := Lib.hid (HD5.out.trans (h7.2.2.mono HD5.out.size))
  have P0 := Lib.hid h7.1
  have Q0 := Lib.hid h7.2.1
  have M0 := Lib.hid (blk_old (blk_old N0.out (.cells #[.int .i64 a0, .string a1, .int .i64 a2, .int .i64 a3, .slice A u c, .int .i64 b0, .string b1, .int .i64 b2, .int .i64 b3, .slice B v d] 24)) (.cells #[.int .i64 9, .string ⟨#[]⟩, .int .i64 0, .int .i64 0, .slice (some ⟨w5.heap.size, 0, none⟩) 2 2] 24))
  have M1 := Lib.hid (blk_old (blk_old N1.out (.cells #[.int .i64 a0, .string a1, .int .i64 a2, .int .i64 a3, .slice A u c, .int .i64 b0, .string b1, .int .i64 b2, .int .i64 b3, .slice B v d] 24)) (.cells #[.int .i64 9, .string ⟨#[]⟩, .int .i64 0, .int .i64 0, .slice (some ⟨w5.heap.size, 0, none⟩) 2 2] 24))
  clear n0 n1 n2 n3 n4 m0 m1 m2 m3 m4 h7 N0 N1
  have N0 := M0
  have N1 := M1
  clear M0 M1
  generalize (w5.alloc (.cells #[.int .i64 a0, .string a1, .int .i64 a2, .int .i64 a3, .slice A u c, .int .i64 b0, .string b1, .int .i64 b2, .int .i64 b3, .slice B v d] 24)).alloc (.cells #[.int .i64 9, .string ⟨#[]⟩, .int .i64 0, .int .i64 0, .slice (some ⟨w5.heap.size, 0, none⟩) 2 2] 24) = w7 at HD7 P0 Q0 N0 N1 ⊢
  generalize w5.heap.size = g at P0 Q0 ⊢
  have HAB := Lib.hid (HAB0.out w7 HD7.out)
  clear HAB0 HSA HSB HD5
  have n0 := (blk_cell N0.out 0).trans rfl
  have m0 := (blk_cell N1.out 0).trans rfl
  have n1 := (blk_cell N0.out 1).trans rfl
  have m1 := (blk_cell N1.out 1).trans rfl
  have n2 := (blk_cell N0.out 2).trans rfl
  have m2 := (blk_cell N1.out 2).trans rfl
  have n3 := (blk_cell N0.out 3).trans rfl
  have m3 := (blk_cell N1.out 3).trans rfl
  have n4 := (blk_cell N0.out 4).trans rfl
  have m4 := (blk_cell N1.out 4).trans rfl
  go_wp2_with (go_at_call 10; refine HAB.out.mono ?_)
  clear n0 m0 n1 m1 n2 m2 n3 m3 n4 m4
  rintro e w8 ⟨rfl, hb⟩
  have HD8 := Lib.hid (HD7.out.trans (hb.mono HD7.out.size))
  have XN0 := Lib.hid ((hb.block _ (blk_lt N0.out)).trans N0.out)
  have XN1 := Lib.hid ((hb.block _ (blk_lt N1.out)).trans N1.out)
  have XP0 := Lib.hid ((hb.block _ (blk_lt P0.out)).trans P0.out)
  have XQ0 := Lib.hid ((hb.block _ (blk_lt Q0.out)).trans Q0.out)
  clear hb N0 N1 P0 Q0 HD7
  have N0 := XN0
  have N1 := XN1
  have P0 := XP0
  have Q0 := XQ0
  clear XN0 XN1 XP0 XQ0
  have HB3 := Lib.hid (HB2.out g w8 HD8.out P0.out (by omega))
  clear HAB HB2
  cases s with
  | false =>
    have q0 := (blk_cell Q0.out 0).trans rfl
    have q1 := (blk_cell Q0.out 1).trans rfl
    have q2 := (blk_cell Q0.out 2).trans rfl
    have q3 := (blk_cell Q0.out 3).trans rfl
    have q4 := (blk_cell Q0.out 4).trans rfl
    have n0 := (blk_cell N0.out 0).trans rfl
    have m0 := (blk_cell N1.out 0).trans rfl
    have n1 := (blk_cell N0.out 1).trans rfl
    have m1 := (blk_cell N1.out 1).trans rfl
    have n2 := (blk_cell N0.out 2).trans rfl
    have m2 := (blk_cell N1.out 2).trans rfl
    have n3 := (blk_cell N0.out 3).trans rfl
    have m3 := (blk_cell N1.out 3).trans rfl
    have n4 := (blk_cell N0.out 4).trans rfl
    have m4 := (blk_cell N1.out 4).trans rfl
    go_wp2_with (go_at_call 12; refine HB3.out.mono ?_)
    clear q0 q1 q2 q3 q4 n0 m0 n1 m1 n2 m2 n3 m3 n4 m4
    rintro e w9 ⟨rfl, hb⟩
    have HD9 := Lib.hid (HD8.out.trans (hb.mono HD8.out.size))
    have XN0 := Lib.hid ((hb.block _ (blk_lt N0.out)).trans N0.out)
    have XN1 := Lib.hid ((hb.block _ (blk_lt N1.out)).trans N1.out)
    have XP0 := Lib.hid ((hb.block _ (blk_lt P0.out)).trans P0.out)
    have XQ0 := Lib.hid ((hb.block _ (blk_lt Q0.out)).trans Q0.out)
    clear hb N0 N1 P0 Q0 HD8
    have N0 := XN0
    have N1 := XN1
    have P0 := XP0
    have Q0 := XQ0
    clear XN0 XN1 XP0 XQ0
    have HX := Lib.hid (HBA1.out w9 HD9.out)
    clear HB3 HBA1
    have n0 := (blk_cell N0.out 0).trans rfl
    have m0 := (blk_cell N1.out 0).trans rfl
    have n1 := (blk_cell N0.out 1).trans rfl
    have m1 := (blk_cell N1.out 1).trans rfl
    have n2 := (blk_cell N0.out 2).trans rfl
    have m2 := (blk_cell N1.out 2).trans rfl
    have n3 := (blk_cell N0.out 3).trans rfl
    have m3 := (blk_cell N1.out 3).trans rfl
    have n4 := (blk_cell N0.out 4).trans rfl
    have m4 := (blk_cell N1.out 4).trans rfl
    try dsimp only
    go_wp2_with (go_at_call 10; refine HX.out.mono ?_)
    clear n0 m0 n1 m1 n2 m2 n3 m3 n4 m4
    rintro e wa ⟨rfl, hb⟩
    have HDa := Lib.hid (HD9.out.trans (hb.mono HD9.out.size))
    have XN0 := Lib.hid ((hb.block _ (blk_lt N0.out)).trans N0.out)
    have XN1 := Lib.hid ((hb.block _ (blk_lt N1.out)).trans N1.out)
    have XP0 := Lib.hid ((hb.block _ (blk_lt P0.out)).trans P0.out)
    have XQ0 := Lib.hid ((hb.block _ (blk_lt Q0.out)).trans Q0.out)
    clear hb N0 N1 P0 Q0 HD9
    have N0 := XN0
    have N1 := XN1
    have P0 := XP0
    have Q0 := XQ0
    clear XN0 XN1 XP0 XQ0
    have HY := Lib.hid (HA3.out g wa HDa.out P0.out)
    clear HX HA3
    have n0 := (blk_cell N0.out 0).trans rfl
    have m0 := (blk_cell N1.out 0).trans rfl
    have n1 := (blk_cell N0.out 1).trans rfl
    have m1 := (blk_cell N1.out 1).trans rfl
    have n2 := (blk_cell N0.out 2).trans rfl
    have m2 := (blk_cell N1.out 2).trans rfl
    have n3 := (blk_cell N0.out 3).trans rfl
    have m3 := (blk_cell N1.out 3).trans rfl
    have n4 := (blk_cell N0.out 4).trans rfl
    have m4 := (blk_cell N1.out 4).trans rfl
    have q0 := (blk_cell Q0.out 0).trans rfl
    have q1 := (blk_cell Q0.out 1).trans rfl
    have q2 := (blk_cell Q0.out 2).trans rfl
    have q3 := (blk_cell Q0.out 3).trans rfl
    have q4 := (blk_cell Q0.out 4).trans rfl
    try dsimp only
    go_wp2_with (go_at_call 10; refine HY.out.mono ?_)
    clear q0 q1 q2 q3 q4 n0 m0 n1 m1 n2 m2 n3 m3 n4 m4
    rintro e wb ⟨rfl, hb⟩
    have HDb := Lib.hid (HDa.out.trans (hb.mono HDa.out.size))
    have XN0 := Lib.hid ((hb.block _ (blk_lt N0.out)).trans N0.out)
    have XN1 := Lib.hid ((hb.block _ (blk_lt N1.out)).trans N1.out)
    have XP0 := Lib.hid ((hb.block _ (blk_lt P0.out)).trans P0.out)
    have XQ0 := Lib.hid ((hb.block _ (blk_lt Q0.out)).trans Q0.out)
    clear hb N0 N1 P0 Q0 HDa
    have N0 := XN0
    have N1 := XN1
    have P0 := XP0
    have Q0 := XQ0
    clear XN0 XN1 XP0 XQ0
    clear HY
    have HDl := Lib.hid (below_step HDb.out (below_alloc (Below.refl _ _) (.cells #[.int .i64 a0, .string a1, .int .i64 a2, .int .i64 a3, .slice A u c, .int .i64 b0, .string b1, .int .i64 b2, .int .i64 b3, .slice B v d] 24)))
    have P1 := Lib.hid (blk_alloc wb (.cells #[.int .i64 a0, .string a1, .int .i64 a2, .int .i64 a3, .slice A u c, .int .i64 b0, .string b1, .int .i64 b2, .int .i64 b3, .slice B v d] 24))
    have HZ := Lib.hid (HA4.out g wb.heap.size _ HDl.out (blk_old P0.out _) P1.out)
    have HLb := Lib.hid (below_alloc (Below.refl wb.heap.size wb) (.cells #[.int .i64 a0, .string a1, .int .i64 a2, .int .i64 a3, .slice A u c, .int .i64 b0, .string b1, .int .i64 b2, .int .i64 b3, .slice B v d] 24))
    clear HA4 P1 HDl
    have bz0 : w.heap.size < wb.heap.size := blk_lt N0.out
    have bz1 : w.heap.size + 1 < wb.heap.size := blk_lt N1.out
    have bz2 : g + 1 < wb.heap.size := blk_lt Q0.out
    have n0 := (blk_cell N0.out 0).trans rfl
    have m0 := (blk_cell N1.out 0).trans rfl
    have n1 := (blk_cell N0.out 1).trans rfl
    have m1 := (blk_cell N1.out 1).trans rfl
    have n2 := (blk_cell N0.out 2).trans rfl
    have m2 := (blk_cell N1.out 2).trans rfl
    have n3 := (blk_cell N0.out 3).trans rfl
    have m3 := (blk_cell N1.out 3).trans rfl
    have n4 := (blk_cell N0.out 4).trans rfl
    have m4 := (blk_cell N1.out 4).trans rfl
    have q0 := (blk_cell Q0.out 0).trans rfl
    have q1 := (blk_cell Q0.out 1).trans rfl
    have q2 := (blk_cell Q0.out 2).trans rfl
    have q3 := (blk_cell Q0.out 3).trans rfl
    have q4 := (blk_cell Q0.out 4).trans rfl
    try dsimp only
    go_wp2_with (go_at_call 10; refine HZ.out.mono ?_)
    clear q0 q1 q2 q3 q4 n0 m0 n1 m1 n2 m2 n3 m3 n4 m4 bz0 bz1 bz2 HZ
    rintro e wc ⟨rfl, hb0⟩
    have hb := HLb.out.trans (hb0.mono HLb.out.size)
    clear hb0 HLb
    have HDc := Lib.hid (HDb.out.trans (hb.mono HDb.out.size))
    have XN0 := Lib.hid ((hb.block _ (blk_lt N0.out)).trans N0.out)
    have XN1 := Lib.hid ((hb.block _ (blk_lt N1.out)).trans N1.out)
    have XP0 := Lib.hid ((hb.block _ (blk_lt P0.out)).trans P0.out)
    have XQ0 := Lib.hid ((hb.block _ (blk_lt Q0.out)).trans Q0.out)
    clear hb N0 N1 P0 Q0 HDb
    have N0 := XN0
    have N1 := XN1
    have P0 := XP0
    have Q0 := XQ0
    clear XN0 XN1 XP0 XQ0
    have HDl := Lib.hid (below_step HDc.out (below_alloc (Below.refl _ _) (.cells #[.int .i64 b0, .string b1, .int .i64 b2, .int .i64 b3, .slice B v d, .int .i64 a0, .string a1, .int .i64 a2, .int .i64 a3, .slice A u c] 24)))
    have P1 := Lib.hid (blk_alloc wc (.cells #[.int .i64 b0, .string b1, .int .i64 b2, .int .i64 b3, .slice B v d, .int .i64 a0, .string a1, .int .i64 a2, .int .i64 a3, .slice A u c] 24))
    have HZ := Lib.hid (HA5.out g wc.heap.size _ HDl.out (blk_old P0.out _) P1.out)
    have HLb := Lib.hid (below_alloc (Below.refl wc.heap.size wc) (.cells #[.int .i64 b0, .string b1, .int .i64 b2, .int .i64 b3, .slice B v d, .int .i64 a0, .string a1, .int .i64 a2, .int .i64 a3, .slice A u c] 24))
    clear HA5 P1 HDl
    have bz0 : w.heap.size < wc.heap.size := blk_lt N0.out
    have bz1 : w.heap.size + 1 < wc.heap.size := blk_lt N1.out
    have bz2 : g + 1 < wc.heap.size := blk_lt Q0.out
    have n0 := (blk_cell N0.out 0).trans rfl
    have m0 := (blk_cell N1.out 0).trans rfl
    have n1 := (blk_cell N0.out 1).trans rfl
    have m1 := (blk_cell N1.out 1).trans rfl
    have n2 := (blk_cell N0.out 2).trans rfl
    have m2 := (blk_cell N1.out 2).trans rfl
    have n3 := (blk_cell N0.out 3).trans rfl
    have m3 := (blk_cell N1.out 3).trans rfl
    have n4 := (blk_cell N0.out 4).trans rfl
    have m4 := (blk_cell N1.out 4).trans rfl
    have q0 := (blk_cell Q0.out 0).trans rfl
    have q1 := (blk_cell Q0.out 1).trans rfl
    have q2 := (blk_cell Q0.out 2).trans rfl
    have q3 := (blk_cell Q0.out 3).trans rfl
    have q4 := (blk_cell Q0.out 4).trans rfl
    try dsimp only
    go_wp2_with (go_at_call 10; refine HZ.out.mono ?_)
    clear q0 q1 q2 q3 q4 n0 m0 n1 m1 n2 m2 n3 m3 n4 m4 bz0 bz1 bz2 HZ
    rintro e wd ⟨rfl, hb0⟩
    have HDd := Lib.hid (HDc.out.trans ((HLb.out.trans (hb0.mono HLb.out.size)).mono HDc.out.size))
    clear hb0 HLb HDc
    try dsimp only
    go_wp2
    go_ret
    exact BEnd.mk rfl HDd.out
  | true =>
    have e2 : ((na : Int) == (nb : Int)) = true := by have := HSI.out rfl; simp [this]
    have q0 := (blk_cell Q0.out 0).trans rfl
    have q1 := (blk_cell Q0.out 1).trans rfl
    have q2 := (blk_cell Q0.out 2).trans rfl
    have q3 := (blk_cell Q0.out 3).trans rfl
    have q4 := (blk_cell Q0.out 4).trans rfl
    have n0 := (blk_cell N0.out 0).trans rfl
    have m0 := (blk_cell N1.out 0).trans rfl
    have n1 := (blk_cell N0.out 1).trans rfl
    have m1 := (blk_cell N1.out 1).trans rfl
    have n2 := (blk_cell N0.out 2).trans rfl
    have m2 := (blk_cell N1.out 2).trans rfl
    have n3 := (blk_cell N0.out 3).trans rfl
    have m3 := (blk_cell N1.out 3).trans rfl
    have n4 := (blk_cell N0.out 4).trans rfl
    have m4 := (blk_cell N1.out 4).trans rfl
    go_wp2_with (go_at_call 12; refine HB3.out.mono ?_)
    clear q0 q1 q2 q3 q4 n0 m0 n1 m1 n2 m2 n3 m3 n4 m4
    rintro e w9 ⟨rfl, hb⟩
    have HD9 := Lib.hid (HD8.out.trans (hb.mono HD8.out.size))
    have XN0 := Lib.hid ((hb.block _ (blk_lt N0.out)).trans N0.out)
    have XN1 := Lib.hid ((hb.block _ (blk_lt N1.out)).trans N1.out)
    have XP0 := Lib.hid ((hb.block _ (blk_lt P0.out)).trans P0.out)
    have XQ0 := Lib.hid ((hb.block _ (blk_lt Q0.out)).trans Q0.out)
    clear hb N0 N1 P0 Q0 HD8
    have N0 := XN0
    have N1 := XN1
    have P0 := XP0
    have Q0 := XQ0
    clear XN0 XN1 XP0 XQ0
    have HX := Lib.hid (HBA1.out w9 HD9.out)
    clear HB3 HBA1
    have n0 := (blk_cell N0.out 0).trans rfl
    have m0 := (blk_cell N1.out 0).trans rfl
    have n1 := (blk_cell N0.out 1).trans rfl
    have m1 := (blk_cell N1.out 1).trans rfl
    have n2 := (blk_cell N0.out 2).trans rfl
    have m2 := (blk_cell N1.out 2).trans rfl
    have n3 := (blk_cell N0.out 3).trans rfl
    have m3 := (blk_cell N1.out 3).trans rfl
    have n4 := (blk_cell N0.out 4).trans rfl
    have m4 := (blk_cell N1.out 4).trans rfl
    try dsimp only
    go_wp2_with (go_at_call 10; refine HX.out.mono ?_)
    clear n0 m0 n1 m1 n2 m2 n3 m3 n4 m4
    rintro e wa ⟨rfl, hb⟩
    have HDa := Lib.hid (HD9.out.trans (hb.mono HD9.out.size))
    have XN0 := Lib.hid ((hb.block _ (blk_lt N0.out)).trans N0.out)
    have XN1 := Lib.hid ((hb.block _ (blk_lt N1.out)).trans N1.out)
    have XP0 := Lib.hid ((hb.block _ (blk_lt P0.out)).trans P0.out)
    have XQ0 := Lib.hid ((hb.block _ (blk_lt Q0.out)).trans Q0.out)
    clear hb N0 N1 P0 Q0 HD9
    have N0 := XN0
    have N1 := XN1
    have P0 := XP0
    have Q0 := XQ0
    clear XN0 XN1 XP0 XQ0
    have HY := Lib.hid (HA3.out g wa HDa.out P0.out)
    clear HX HA3
    have n0 := (blk_cell N0.out 0).trans rfl
    have m0 := (blk_cell N1.out 0).trans rfl
    have n1 := (blk_cell N0.out 1).trans rfl
    have m1 := (blk_cell N1.out 1).trans rfl
    have n2 := (blk_cell N0.out 2).trans rfl
    have m2 := (blk_cell N1.out 2).trans rfl
    have n3 := (blk_cell N0.out 3).trans rfl
    have m3 := (blk_cell N1.out 3).trans rfl
    have n4 := (blk_cell N0.out 4).trans rfl
    have m4 := (blk_cell N1.out 4).trans rfl
    have q0 := (blk_cell Q0.out 0).trans rfl
    have q1 := (blk_cell Q0.out 1).trans rfl
    have q2 := (blk_cell Q0.out 2).trans rfl
    have q3 := (blk_cell Q0.out 3).trans rfl
    have q4 := (blk_cell Q0.out 4).trans rfl
    try dsimp only
    go_wp2_with (go_at_call 10; refine HY.out.mono ?_)
    clear q0 q1 q2 q3 q4 n0 m0 n1 m1 n2 m2 n3 m3 n4 m4
    rintro e wb ⟨rfl, hb⟩
    have HDb := Lib.hid (HDa.out.trans (hb.mono HDa.out.size))
    have XN0 := Lib.hid ((hb.block _ (blk_lt N0.out)).trans N0.out)
    have XN1 := Lib.hid ((hb.block _ (blk_lt N1.out)).trans N1.out)
    have XP0 := Lib.hid ((hb.block _ (blk_lt P0.out)).trans P0.out)
    have XQ0 := Lib.hid ((hb.block _ (blk_lt Q0.out)).trans Q0.out)
    clear hb N0 N1 P0 Q0 HDa
    have N0 := XN0
    have N1 := XN1
    have P0 := XP0
    have Q0 := XQ0
    clear XN0 XN1 XP0 XQ0
    clear HY
    have HDl := Lib.hid (below_step HDb.out (below_alloc (Below.refl _ _) (.cells #[.int .i64 a0, .string a1, .int .i64 a2, .int .i64 a3, .slice A u c, .int .i64 b0, .string b1, .int .i64 b2, .int .i64 b3, .slice B v d] 24)))
    have P1 := Lib.hid (blk_alloc wb (.cells #[.int .i64 a0, .string a1, .int .i64 a2, .int .i64 a3, .slice A u c, .int .i64 b0, .string b1, .int .i64 b2, .int .i64 b3, .slice B v d] 24))
    have HZ := Lib.hid (HA4.out g wb.heap.size _ HDl.out (blk_old P0.out _) P1.out)
    have HLb := Lib.hid (below_alloc (Below.refl wb.heap.size wb) (.cells #[.int .i64 a0, .string a1, .int .i64 a2, .int .i64 a3, .slice A u c, .int .i64 b0, .string b1, .int .i64 b2, .int .i64 b3, .slice B v d] 24))
    clear HA4 P1 HDl
    have bz0 : w.heap.size < wb.heap.size := blk_lt N0.out
    have bz1 : w.heap.size + 1 < wb.heap.size := blk_lt N1.out
    have bz2 : g + 1 < wb.heap.size := blk_lt Q0.out
    have n0 := (blk_cell N0.out 0).trans rfl
    have m0 := (blk_cell N1.out 0).trans rfl
    have n1 := (blk_cell N0.out 1).trans rfl
    have m1 := (blk_cell N1.out 1).trans rfl
    have n2 := (blk_cell N0.out 2).trans rfl
    have m2 := (blk_cell N1.out 2).trans rfl
    have n3 := (blk_cell N0.out 3).trans rfl
    have m3 := (blk_cell N1.out 3).trans rfl
    have n4 := (blk_cell N0.out 4).trans rfl
    have m4 := (blk_cell N1.out 4).trans rfl
    have q0 := (blk_cell Q0.out 0).trans rfl
    have q1 := (blk_cell Q0.out 1).trans rfl
    have q2 := (blk_cell Q0.out 2).trans rfl
    have q3 := (blk_cell Q0.out 3).trans rfl
    have q4 := (blk_cell Q0.out 4).trans rfl
    try dsimp only
    go_wp2_with (go_at_call 10; refine HZ.out.mono ?_)
    clear q0 q1 q2 q3 q4 n0 m0 n1 m1 n2 m2 n3 m3 n4 m4 bz0 bz1 bz2 HZ
    rintro e wc ⟨rfl, hb0⟩
    have hb := HLb.out.trans (hb0.mono HLb.out.size)
    clear hb0 HLb
    have HDc := Lib.hid (HDb.out.trans (hb.mono HDb.out.size))
    have XN0 := Lib.hid ((hb.block _ (blk_lt N0.out)).trans N0.out)
    have XN1 := Lib.hid ((hb.block _ (blk_lt N1.out)).trans N1.out)
    have XP0 := Lib.hid ((hb.block _ (blk_lt P0.out)).trans P0.out)
    have XQ0 := Lib.hid ((hb.block _ (blk_lt Q0.out)).trans Q0.out)
    clear hb N0 N1 P0 Q0 HDb
    have N0 := XN0
    have N1 := XN1
    have P0 := XP0
    have Q0 := XQ0
    clear XN0 XN1 XP0 XQ0
    have HDl := Lib.hid (below_step HDc.out (below_alloc (Below.refl _ _) (.cells #[.int .i64 b0, .string b1, .int .i64 b2, .int .i64 b3, .slice B v d, .int .i64 a0, .string a1, .int .i64 a2, .int .i64 a3, .slice A u c] 24)))
    have P1 := Lib.hid (blk_alloc wc (.cells #[.int .i64 b0, .string b1, .int .i64 b2, .int .i64 b3, .slice B v d, .int .i64 a0, .string a1, .int .i64 a2, .int .i64 a3, .slice A u c] 24))
    have HZ := Lib.hid (HA5.out g wc.heap.size _ HDl.out (blk_old P0.out _) P1.out)
    have HLb := Lib.hid (below_alloc (Below.refl wc.heap.size wc) (.cells #[.int .i64 b0, .string b1, .int .i64 b2, .int .i64 b3, .slice B v d, .int .i64 a0, .string a1, .int .i64 a2, .int .i64 a3, .slice A u c] 24))
    clear HA5 P1 HDl
    have bz0 : w.heap.size < wc.heap.size := blk_lt N0.out
    have bz1 : w.heap.size + 1 < wc.heap.size := blk_lt N1.out
    have bz2 : g + 1 < wc.heap.size := blk_lt Q0.out
    have n0 := (blk_cell N0.out 0).trans rfl
    have m0 := (blk_cell N1.out 0).trans rfl
    have n1 := (blk_cell N0.out 1).trans rfl
    have m1 := (blk_cell N1.out 1).trans rfl
    have n2 := (blk_cell N0.out 2).trans rfl
    have m2 := (blk_cell N1.out 2).trans rfl
    have n3 := (blk_cell N0.out 3).trans rfl
    have m3 := (blk_cell N1.out 3).trans rfl
    have n4 := (blk_cell N0.out 4).trans rfl
    have m4 := (blk_cell N1.out 4).trans rfl
    have q0 := (blk_cell Q0.out 0).trans rfl
    have q1 := (blk_cell Q0.out 1).trans rfl
    have q2 := (blk_cell Q0.out 2).trans rfl
    have q3 := (blk_cell Q0.out 3).trans rfl
    have q4 := (blk_cell Q0.out 4).trans rfl
    try dsimp only
    go_wp2_with (go_at_call 10; refine HZ.out.mono ?_)
    clear q0 q1 q2 q3 q4 n0 m0 n1 m1 n2 m2 n3 m3 n4 m4 bz0 bz1 bz2 HZ
    rintro e wd ⟨rfl, hb0⟩
    have HDd := Lib.hid (HDc.out.trans ((HLb.out.trans (hb0.mono HLb.out.size)).mono HDc.out.size))
    clear hb0 HLb HDc
    try dsimp only
    go_wp2
    go_ret
    exact BEnd.mk rfl HDd.out
end Go.Proofs.YtkcochfaadfchaaGreatDoor.XA
end
section
namespace Go.Proofs.YtkcochfaadfchaaGreatDoor.XA.exprSizes
open Go.ChangeShapes Go.WideShapes Go.ChangeAt Go.RowKit
open Go.ChangeMaps (open_string shut_string)
theorem reads (os : Os) {H : Type} (enc : TypeId × Value → H) : ∃ places, DataW.whole enc Tryz.prog ((laidWorld os).forCall (fun _ _ => 0) ⟨#[], #[.agg #[.int .i64 0, .string ⟨#[]⟩, .int .i64 0, .int .i64 0, .slice none 0 0], .agg #[.int .i64 0, .string ⟨#[]⟩, .int .i64 0, .int .i64 0, .slice none 0 0]], []⟩).memory Tryz.f5.params.toList Rows.exprSizesSpec.vars false (#[.agg #[.int .i64 0, .string ⟨#[]⟩, .int .i64 0, .int .i64 0, .slice none 0 0], .agg #[.int .i64 0, .string ⟨#[]⟩, .int .i64 0, .int .i64 0, .slice none 0 0]] : Array Value).toList 8 = some ([.agg [.lit (.int .i64 0), .lit (.string []), .lit (.int .i64 0), .lit (.int .i64 0), .nil], .agg [.lit (.int .i64 0), .lit (.string []), .lit (.int .i64 0), .lit (.int .i64 0), .nil]], [], places) :=
  ⟨[], by kernel_rfl⟩
set_option maxRecDepth 100000 in
theorem lifted (os : Os) (started : os.Started) (H : Type) (enc : TypeId × Value → H) (F : Stop.Interp) :
    ReturnsInHanded {} Tryz.checked os 5 .any ((OpenSpec.ofChange Rows.exprSizesSpec).preRow enc Tryz.prog Tryz.f5 Rows.exprSizesRow.domain false Rows.exprSizesRow.laid) (((OpenSpec.ofChange Rows.exprSizesSpec).at F).post enc Tryz.prog Tryz.f5 false true false false) := by
  obtain ⟨places, hx⟩ := reads os enc
  refine returnsInHanded_of_row (C := Tryz.checked) (s := OpenSpec.ofChange Rows.exprSizesSpec) own started (by kernel_rfl) Tryz.func5
    (witness_row_atRef (enc := enc) (C := Tryz.checked) false (laidWorld os) #[.agg #[.int .i64 0, .string ⟨#[]⟩, .int .i64 0, .int .i64 0, .slice none 0 0], .agg #[.int .i64 0, .string ⟨#[]⟩, .int .i64 0, .int .i64 0, .slice none 0 0]] rfl (by kernel_rfl) (by kernel_rfl) (by kernel_rfl)
      (OpenSpec.preRow_of_cond 8 hx (by kernel_rfl) (fun k hk => by cases hk) (by kernel_rfl) (laid_met os _))) ?_
  intro W base args ds gs before hval0 hW _ _ hz0 hL hS _
  have hG : GOK W := gok_of_laid hL (size_of_shaped hS)
  have hval : ∀ (j : Nat) t v, Tryz.f5.params[j]? = some t → args[j]? = some v → Value.okWide Tryz.prog W .any base t v := hval0
  have hW' := hW
  obtain ⟨p, q, hA0, hV, rfl, _, _⟩ := hW
  have hA : DataW.TrodAll enc Tryz.prog W 0 (fun _ => true) true Tryz.f5.params.toList args.toList ds p := hA0
  rw [Tryz.params5] at hA hval
  obtain ⟨v0, vs0, d0, ds0, p0, q0, hargs, rfl, rfl, h0, r0⟩ := trodAll_cons hA
  obtain ⟨v1, vs1, d1, ds1, p1, q1, rfl, rfl, rfl, h1, r1⟩ := trodAll_cons r0
  have hz : XO.fit (DataW.weightsEach Tryz.prog (Tryz.f5.params.toList ++ (OpenSpec.ofChange Rows.exprSizesSpec).bare.plain.varTypes Tryz.prog) ((d0 :: d1 :: ds1) ++ gs)) := hz0
  rw [Tryz.params5] at hz
  obtain ⟨rfl, rfl, rfl⟩ := trodAll_nil r1
  obtain rfl : args = #[v0, v1] := by cases args; simp_all
  obtain ⟨rfl, rfl⟩ := trodVars_none hV
  have z0 := (XO.fit_app (show XO.fit (d0.weights Tryz.prog 24 ++ _) from hz)).1
  have hz := (XO.fit_app (show XO.fit (d0.weights Tryz.prog 24 ++ _) from hz)).2
  have lt0 : ∀ x ∈ p0, x.block < W.heap.size := by obtain ⟨m, hm⟩ := h0; exact DataW.trod_lt m _ _ _ hm
  obtain ⟨x0, A0, c0, rfl, l0, g0, w0⟩ := open_node (hval 0 24 v0 rfl rfl) h0 z0
  have z1 := (XO.fit_app (show XO.fit (d1.weights Tryz.prog 24 ++ _) from hz)).1
  have hz := (XO.fit_app (show XO.fit (d1.weights Tryz.prog 24 ++ _) from hz)).2
  have lt1 : ∀ x ∈ p1, x.block < W.heap.size := by obtain ⟨m, hm⟩ := h1; exact DataW.trod_lt m _ _ _ hm
  obtain ⟨x1, A1, c1, rfl, l1, g1, w1⟩ := open_node (hval 1 24 v1 rfl rfl) h1 z1
  clear hA0 hval0
  refine (lawSizes_calls x0 x1 A0 c0 A1 c1 W hG g0 l0 g1 l1 w0 w1).mono ?_
  rintro e W' ⟨rfl, bel⟩
  exact ⟨_, rfl, _, _, _, [], _, [], hW', trodAll_mk1 (shut_bool Tryz.underlying4 _), (trodAll_cons_mk (Below.trod laidOut (by kernel_rfl) (of_decide_eq_true (by kernel_rfl)) h0 bel lt0) (trodAll_cons_mk (Below.trod laidOut (by kernel_rfl) (of_decide_eq_true (by kernel_rfl)) h1 bel lt1) trodAll_mk0)), rfl, bel.frame _, fun h => by cases h⟩
theorem said : Rows.ExprSizesSaid :=
  OpenClaim.holds_of_cond 5 Tryz.f5 rfl rfl rfl rfl rfl rfl rfl ⟨rfl, rfl, rfl, rfl, rfl⟩ rfl rfl rfl rfl rfl (by kernel_rfl) Tryz.func5 (by kernel_rfl)
    (of_decide_eq_true (by kernel_rfl)) (by unfold Func.isWrapper; first | (rw [if_pos (by decide +kernel)]; kernel_rfl) | (rw [if_neg (by decide +kernel)]; exact ⟨rfl, rfl⟩))
    (fun os started H enc _ F => by rw [OpenClaim.pre_eq_preRow]; exact lifted os started H enc F)
theorem plain (f : FuncId) (fn : Func) (hf : Tryz.pinned.checked.prog.funcNamed "caesura/caesuralaw06.ExprSizes" = some f) (hfn : Tryz.pinned.checked.prog.funcs[f]? = some fn) :
    true = Tryz.pinned.checked.prog.looks [] ∧ ∀ (j : Nat) t, fn.params[j]? = some t → Tryz.pinned.checked.prog.wantsStandIn t = false := by
  obtain rfl : f = 5 := Option.some.inj ((show Tryz.prog.funcNamed "caesura/caesuralaw06.ExprSizes" = some 5 by kernel_rfl).symm.trans hf) |>.symm
  obtain rfl : fn = Tryz.f5 := (Option.some.inj (Tryz.func5.symm.trans hfn)).symm
  refine ⟨by kernel_rfl, fun j t ht => ?_⟩
  rw [Tryz.params5] at ht
  have hm : t ∈ (#[24, 24] : Array TypeId) := Array.mem_of_getElem? ht
  simp only [List.mem_toArray, List.mem_cons, List.not_mem_nil, or_false] at hm
  rcases hm with rfl | rfl
  · exact (show Tryz.prog.wantsStandIn 24 = false by kernel_rfl)
  · exact (show Tryz.prog.wantsStandIn 24 = false by kernel_rfl)
theorem card : Rows.ExprSizesCardSaid :=
  Claim7.holds_tied_plain_at .later [] _ _ _ _ said (fun _ h => by cases h) (by kernel_rfl) (fun _ h => by cases h) exprSizes_row_tie rfl ⟨rfl, rfl⟩ (by kernel_rfl) rfl plain (by kernel_rfl)
end Go.Proofs.YtkcochfaadfchaaGreatDoor.XA.exprSizes
namespace Go.Proofs.YtkcochfaadfchaaGreatDoor
theorem exprSizes_card : Rows.ExprSizesCardSaid := XA.exprSizes.card
end Go.Proofs.YtkcochfaadfchaaGreatDoor
end
