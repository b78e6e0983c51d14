/- The law ExprSames holds for every input: the row, tied to the program's text. -/
import Derived.Test.YtkcochfaadfchaaGreatDoorZS1
import Derived.Test.YtkcochfaadfchaaGreatDoorZS2
import Derived.Test.YtkcochfaadfchaaGreatDoorZS3
import Derived.Test.YtkcochfaadfchaaGreatDoorZS4
import Derived.Test.YtkcochfaadfchaaGreatDoorZS5
import Derived.Test.YtkcochfaadfchaaGreatDoorZS6
import Derived.Test.YtkcochfaadfchaaGreatDoorZS7
import Derived.Test.YtkcochfaadfchaaGreatDoorZS8
import Derived.Test.YtkcochfaadfchaaGreatDoorZS9
import Derived.Test.YtkcochfaadfchaaGreatDoorZS10
import Derived.Test.YtkcochfaadfchaaGreatDoorZE1
import Derived.OpenShut
section
set_option linter.unusedVariables false
set_option linter.unusedSimpArgs false
namespace Go.Proofs.YtkcochfaadfchaaGreatDoor.XA
set_option linter.unusedSimpArgs false
set_option linter.unusedVariables false
open Go.RowKit
open Go.Proofs.YtkcochfaadfchaaGreatDoorW.PrintWords Go.Proofs.YtkcochfaadfchaaGreatDoorW.PrintLast Go.Proofs.YtkcochfaadfchaaGreatDoorW.PrintMore
theorem three_blocks (w : World) (o1 o2 o3 : Obj) : (((w.alloc o1).alloc o2).alloc o3).heap[w.heap.size]? = some o1 ∧ (((w.alloc o1).alloc o2).alloc o3).heap[w.heap.size + 1]? = some o2 ∧ (((w.alloc o1).alloc o2).alloc o3).heap[w.heap.size + 1 + 1]? = some o3 ∧ Below w.heap.size w (((w.alloc o1).alloc o2).alloc o3) := by
  have e : ∀ i : Nat, (((w.alloc o1).alloc o2).alloc o3).heap[i]? = (((w.heap.push o1).push o2).push o3)[i]? := fun _ => rfl
  refine ⟨?_, ?_, ?_, below_alloc (below_alloc (below_alloc (Below.refl _ _) _) _) _⟩
  · rw [e]; simp [Array.getElem?_push]; intro h; omega
  · rw [e, Array.getElem?_push, if_neg (by simp), Array.getElem?_push, if_pos (by simp)]
  · rw [e, Array.getElem?_push, if_pos (by simp)]
set_option maxRecDepth 100000 in
set_option maxHeartbeats 16000000 in
theorem lawSames_calls (a b : ES.Node) (A : Option Addr) (c : Nat) (B : Option Addr) (d : Nat) (l m : List ES.Itm) (X : Option Addr) (m0 : Nat) (Y : Option Addr) (m1 : Nat) (w : World) (hG : GOK w)
    (hA : Kd.C kNode w A a.f4.length a.f4) (la : a.f4.length ≤ c) (hB : Kd.C kNode w B b.f4.length b.f4) (lb : b.f4.length ≤ d) (wa : wfN a) (wb : wfN b)
    (hX : Kd.C kItem w X l.length l) (lx : l.length ≤ m0) (hY : Kd.C kItem w Y m.length m) (ly : m.length ≤ m1) (wx : ∀ q, q ∈ l → wfI q) (zx : l.length * 176 ≤ reachBytes) (wy : ∀ q, q ∈ m → wfI q) (zy : m.length * 176 ≤ reachBytes) :
    Calls Tryz.prog 3 #[.agg #[.int .i64 a.f0, .string a.f1, .int .i64 a.f2, .int .i64 a.f3, .slice A a.f4.length c], .agg #[.int .i64 b.f0, .string b.f1, .int .i64 b.f2, .int .i64 b.f3, .slice B b.f4.length d], .agg #[.slice X l.length m0, .slice Y m.length m1]] w (BEnd true w) := by
  have hT := Tryz.underlying24
  have hT2 := Tryz.underlying26
  obtain ⟨va, ⟨Ka, hKa⟩, va0, va1, va2⟩ := weight_ev a wa
  obtain ⟨vb, ⟨Kb, hKb⟩, vb0, vb1, vb2⟩ := weight_ev b wb
  obtain ⟨gx, Kx, hKx⟩ := great_ev l 1000 (by unfold reachBytes at zx; omega) wx
  obtain ⟨gy, Ky, hKy⟩ := great_ev m 1000 (by unfold reachBytes at zy; omega) wy
  obtain ⟨Kz, hKz⟩ := size_ev a wa
  obtain ⟨Kr, hKr⟩ := refSize_ev a wa
  have HWA := Lib.hid (fun W' (h : Below w.heap.size w W') => caesuraref06_Weight.calls Ka a.f0 a.f1 a.f2 a.f3 A c a.f4 0 va W' (Kd.C_below hA h) la (hKa Ka (Nat.le_refl _)))
  have HWB := Lib.hid (fun W' (h : Below w.heap.size w W') => caesuraref06_Weight.calls Kb b.f0 b.f1 b.f2 b.f3 B d b.f4 0 vb W' (Kd.C_below hB h) lb (hKb Kb (Nat.le_refl _)))
  have HGX := Lib.hid (fun W' (h : Below w.heap.size w W') => caesuraref06_Great.calls Kx X m0 l 1000 gx W' (Kd.C_below hX h) lx (hKx Kx (Nat.le_refl _)))
  have HGY := Lib.hid (fun W' (h : Below w.heap.size w W') => caesuraref06_Great.calls Ky Y m1 m 1000 gy W' (Kd.C_below hY h) ly (hKy Ky (Nat.le_refl _)))
  have HSZ := Lib.hid (fun W' (h : Below w.heap.size w W') => expr_Size.calls Kz a.f0 a.f1 a.f2 a.f3 A c a.f4 _ W' (Kd.C_below hA h) la (hKz Kz (Nat.le_refl _)))
  have HRZ := Lib.hid (fun W' (h : Below w.heap.size w W') => caesuraref06_Size.calls Kr a.f0 a.f1 a.f2 a.f3 A c a.f4 _ W' (Kd.C_below hA h) la (hKr Kr (Nat.le_refl _)))
  have HAB := Lib.hid (fun W' (h : Below w.heap.size w W') => same_calls a b A c B d W' (Kd.C_below hA h) (Kd.C_below hB h))
  have HRB := Lib.hid (fun W' (h : Below w.heap.size w W') => refSame_calls a b A c B d W' (Kd.C_below hA h) la (Kd.C_below hB h) lb)
  have HAA0 := Lib.hid (fun W' (h : Below w.heap.size w W') => same_calls a a A c A c W' (Kd.C_below hA h) (Kd.C_below hA h))
  have HIT := Lib.hid (fun W' (h : Below w.heap.size w W') => expr_Items.calls X m0 l Y m1 m (ES.sameIs l m) W' (Kd.C_below hX h) lx (Kd.C_below hY h) ly rfl)
  have HRI := Lib.hid (fun W' (h : Below w.heap.size w W') => refItems_calls l m X m0 Y m1 W' (Kd.C_below hX h) (Kd.C_below hY h))
  have HLL0 := Lib.hid (fun W' (h : Below w.heap.size w W') => expr_Items.calls X m0 l X m0 l (ES.sameIs l l) W' (Kd.C_below hX h) lx (Kd.C_below hX h) lx rfl)
  have hm0 : a.f4.length ≤ 9223372036854775807 := hA.2.1
  have hm1 : b.f4.length ≤ 9223372036854775807 := hB.2.1
  have hm2 : l.length ≤ 9223372036854775807 := hX.2.1
  have hm3 : m.length ≤ 9223372036854775807 := hY.2.1
  have HAL := Lib.hid (fun W' (h : Below w.heap.size w W') => alive_calls W' (hG.step h))
  have HAA : Hid (∀ W', Below w.heap.size w W' → Calls Tryz.prog 10 #[.agg #[.int .i64 a.f0, .string a.f1, .int .i64 a.f2, .int .i64 a.f3, .slice A a.f4.length c], .agg #[.int .i64 a.f0, .string a.f1, .int .i64 a.f2, .int .i64 a.f3, .slice A a.f4.length c]] W' (BEnd true W')) := Lib.hid (fun W' h => by have h2 := HAA0.out W' h; rw [ES.sameN_refl] at h2; exact h2)
  have HLL : Hid (∀ W', Below w.heap.size w W' → Calls Tryz.prog 14 #[.slice X l.length m0, .slice X l.length m0] W' (BEnd true W')) := Lib.hid (fun W' h => by have h2 := HLL0.out W' h; rw [ES.sameIs_refl] at h2; exact h2)
  obtain ⟨s, hs⟩ : ∃ s, ES.sameN a b = s := ⟨_, rfl⟩
  obtain ⟨t, ht⟩ : ∃ t, ES.sameIs l m = t := ⟨_, rfl⟩
  obtain ⟨z, hz⟩ : ∃ z, mn 100000 ((ES.nodesN a : Nat) : Int) = z := ⟨_, rfl⟩
  rw [hs] at HAB HRB
  rw [ht] at HIT HRI
  rw [hz] at HSZ HRZ
  clear HAA0 HLL0 hs ht hz hKa hKb hKx hKy hKz hKr hA hB hX hY la lb lx ly wa wb wx wy zx zy va0 va1 va2 vb0 vb1 vb2 hG
  obtain ⟨a0, a1, a2, a3, ak⟩ := a
  obtain ⟨b0, b1, b2, b3, bk⟩ := b
  dsimp only at HWA HWB HSZ HRZ HAB HRB HAA hm0 hm1 ⊢
  obtain ⟨u, hu⟩ : ∃ u, ak.length = u := ⟨_, rfl⟩
  obtain ⟨v, hv⟩ : ∃ v, bk.length = v := ⟨_, rfl⟩
  obtain ⟨n0, hn0⟩ : ∃ n, l.length = n := ⟨_, rfl⟩
  obtain ⟨n1, hn1⟩ : ∃ n, m.length = n := ⟨_, rfl⟩
  rw [hu] at HWA HSZ HRZ HAB HRB HAA hm0 ⊢
  rw [hv] at HWB HAB HRB hm1 ⊢
  rw [hn0] at HGX HIT HRI HLL hm2 ⊢
  rw [hn1] at HGY HIT HRI hm3 ⊢
  clear hu hv hn0 hn1
  obtain ⟨W, hW⟩ : ∃ W, ((w.alloc (.cells #[.int .i64 a0, .string a1, .int .i64 a2, .int .i64 a3, .slice A u c] 24)).alloc (.cells #[.int .i64 b0, .string b1, .int .i64 b2, .int .i64 b3, .slice B v d] 24)).alloc (.cells #[.slice X n0 m0, .slice Y n1 m1] 26) = W := ⟨_, rfl⟩
  have h2 := three_blocks w (.cells #[.int .i64 a0, .string a1, .int .i64 a2, .int .i64 a3, .slice A u c] 24) (.cells #[.int .i64 b0, .string b1, .int .i64 b2, .int .i64 b3, .slice B v d] 24) (.cells #[.slice X n0 m0, .slice Y n1 m1] 26)
  rw [hW] at h2
  have HBW := Lib.hid h2.2.2.2
  have HAL2 := Lib.hid (HAL.out W HBW.out)
  have N0 := Lib.hid h2.1
  have N1 := Lib.hid h2.2.1
  have N2 := Lib.hid h2.2.2.1
  have HW := Lib.hid hW
  clear h2 hW HAL
  go_enter Tryz.func3, Tryz.ntmps3
  try simp only [List.append_eq, List.cons_append, List.nil_append]
  go_upto_region 1 with fail
  rw [HW.out]
  go_wp2_with (go_at_call 7; refine HAL2.out.mono ?_)
  rintro e w1 ⟨rfl, hb⟩
  have HD1 := Lib.hid (HBW.out.trans (hb.mono HBW.out.size))
  have M0 := Lib.hid ((hb.block _ (blk_lt N0.out)).trans N0.out)
  have M1 := Lib.hid ((hb.block _ (blk_lt N1.out)).trans N1.out)
  have M2 := Lib.hid ((hb.block _ (blk_lt N2.out)).trans N2.out)
  clear hb N0 N1 N2 HBW HAL2
  have N0 := M0
  have N1 := M1
  clear M0 M1
  have t0 := (blk_cell M2.out 0).trans rfl
  have t1 := (blk_cell M2.out 1).trans rfl
  try dsimp only
  go_upto_region 3 with fail
  have tl : w.heap.size + 1 + 1 < w1.heap.size := blk_lt M2.out
  go_region
  clear t0 t1 tl M2
  have HD2 : Hid (Below w.heap.size w w1.drew) := Lib.hid HD1.out.drew
  have M0 := Lib.hid ((show w1.drew.heap[w.heap.size]? = w1.heap[w.heap.size]? from rfl).trans N0.out)
  have M1 := Lib.hid ((show w1.drew.heap[w.heap.size + 1]? = w1.heap[w.heap.size + 1]? from rfl).trans N1.out)
  clear HD1 N0 N1
  generalize w1.drew = w2 at HD2 M0 M1 ⊢
  have N0 := M0
  have N1 := M1
  clear M0 M1
  try dsimp only
  have HWA1 := Lib.hid (HWA.out w2 HD2.out)
  clear HWA
  have n0_ := (blk_cell N0.out 0).trans rfl
  have m0_ := (blk_cell N1.out 0).trans rfl
  have n1_ := (blk_cell N0.out 1).trans rfl
  have m1_ := (blk_cell N1.out 1).trans rfl
  have n2_ := (blk_cell N0.out 2).trans rfl
  have m2_ := (blk_cell N1.out 2).trans rfl
  have n3_ := (blk_cell N0.out 3).trans rfl
  have m3_ := (blk_cell N1.out 3).trans rfl
  have n4_ := (blk_cell N0.out 4).trans rfl
  have m4_ := (blk_cell N1.out 4).trans rfl
  by_cases h5 : 1000 < va
  · have p1va : decide (1000 < va) = true := decide_eq_true h5
    have p2va : ((1000 : Int) < va) = True := eq_true h5
    have p3va : decide (va > 1000) = true := decide_eq_true h5
    clear h5
    go_wp2_with (go_at_call 8; refine HWA1.out.mono ?_)
    rintro e w3 ⟨rfl, hb⟩
    have HD3 := Lib.hid (HD2.out.trans (hb.mono HD2.out.size))
    clear hb
    try dsimp only
    go_wp2
    all_goals go_ret
    all_goals exact BEnd.mk rfl HD3.out
  have p1va : decide (1000 < va) = false := decide_eq_false h5
  have p2va : ((1000 : Int) < va) = False := eq_false h5
  have p3va : decide (va > 1000) = false := decide_eq_false h5
  clear h5
  go_wp2_with (go_at_call 8; refine HWA1.out.mono ?_)
  clear n0_ m0_ n1_ m1_ n2_ m2_ n3_ m3_ n4_ m4_
  rintro e w3 ⟨rfl, hb⟩
  have HD3 := Lib.hid (HD2.out.trans (hb.mono HD2.out.size))
  have M0 := Lib.hid ((hb.block _ (blk_lt N0.out)).trans N0.out)
  have M1 := Lib.hid ((hb.block _ (blk_lt N1.out)).trans N1.out)
  clear hb N0 N1 HD2
  have N0 := M0
  have N1 := M1
  clear M0 M1
  clear HWA1
  have HWB1 := Lib.hid (HWB.out w3 HD3.out)
  clear HWB
  have n0_ := (blk_cell N0.out 0).trans rfl
  have m0_ := (blk_cell N1.out 0).trans rfl
  have n1_ := (blk_cell N0.out 1).trans rfl
  have m1_ := (blk_cell N1.out 1).trans rfl
  have n2_ := (blk_cell N0.out 2).trans rfl
  have m2_ := (blk_cell N1.out 2).trans rfl
  have n3_ := (blk_cell N0.out 3).trans rfl
  have m3_ := (blk_cell N1.out 3).trans rfl
  have n4_ := (blk_cell N0.out 4).trans rfl
  have m4_ := (blk_cell N1.out 4).trans rfl
  try dsimp only
  by_cases h5 : 1000 < vb
  · have p1vb : decide (1000 < vb) = true := decide_eq_true h5
    have p2vb : ((1000 : Int) < vb) = True := eq_true h5
    have p3vb : decide (vb > 1000) = true := decide_eq_true h5
    clear h5
    go_wp2_with (go_at_call 8; refine HWB1.out.mono ?_)
    rintro e w5 ⟨rfl, hb⟩
    have HD5 := Lib.hid (HD3.out.trans (hb.mono HD3.out.size))
    clear hb
    try dsimp only
    go_wp2
    all_goals go_ret
    all_goals exact BEnd.mk rfl HD5.out
  have p1vb : decide (1000 < vb) = false := decide_eq_false h5
  have p2vb : ((1000 : Int) < vb) = False := eq_false h5
  have p3vb : decide (vb > 1000) = false := decide_eq_false h5
  clear h5
  go_wp2_with (go_at_call 8; refine HWB1.out.mono ?_)
  clear n0_ m0_ n1_ m1_ n2_ m2_ n3_ m3_ n4_ m4_
  rintro e w5 ⟨rfl, hb⟩
  have HD5 := Lib.hid (HD3.out.trans (hb.mono HD3.out.size))
  have M0 := Lib.hid ((hb.block _ (blk_lt N0.out)).trans N0.out)
  have M1 := Lib.hid ((hb.block _ (blk_lt N1.out)).trans N1.out)
  clear hb N0 N1 HD3
  have N0 := M0
  have N1 := M1
  clear M0 M1
  clear HWB1
  have HGX1 := Lib.hid (HGX.out w5 HD5.out)
  clear HGX
  have n0_ := (blk_cell N0.out 0).trans rfl
  have m0_ := (blk_cell N1.out 0).trans rfl
  have n1_ := (blk_cell N0.out 1).trans rfl
  have m1_ := (blk_cell N1.out 1).trans rfl
  have n2_ := (blk_cell N0.out 2).trans rfl
  have m2_ := (blk_cell N1.out 2).trans rfl
  have n3_ := (blk_cell N0.out 3).trans rfl
  have m3_ := (blk_cell N1.out 3).trans rfl
  have n4_ := (blk_cell N0.out 4).trans rfl
  have m4_ := (blk_cell N1.out 4).trans rfl
  try dsimp only
  cases gx with
  | true =>
    go_wp2_with (go_at_call 9; refine HGX1.out.mono ?_)
    rintro e w6 ⟨rfl, hb⟩
    have HD6 := Lib.hid (HD5.out.trans (hb.mono HD5.out.size))
    clear hb
    try dsimp only
    go_wp2
    all_goals go_ret
    all_goals exact BEnd.mk rfl HD6.out
  | false =>
  go_wp2_with (go_at_call 9; refine HGX1.out.mono ?_)
  clear n0_ m0_ n1_ m1_ n2_ m2_ n3_ m3_ n4_ m4_
  rintro e w6 ⟨rfl, hb⟩
  have HD6 := Lib.hid (HD5.out.trans (hb.mono HD5.out.size))
  have M0 := Lib.hid ((hb.block _ (blk_lt N0.out)).trans N0.out)
  have M1 := Lib.hid ((hb.block _ (blk_lt N1.out)).trans N1.out)
  clear hb N0 N1 HD5
  have N0 := M0
  have N1 := M1
  clear M0 M1
  clear HGX1
  have HGY1 := Lib.hid (HGY.out w6 HD6.out)
  clear HGY
  have n0_ := (blk_cell N0.out 0).trans rfl
  have m0_ := (blk_cell N1.out 0).trans rfl
  have n1_ := (blk_cell N0.out 1).trans rfl
  have m1_ := (blk_cell N1.out 1).trans rfl
  have n2_ := (blk_cell N0.out 2).trans rfl
  have m2_ := (blk_cell N1.out 2).trans rfl
  have n3_ := (blk_cell N0.out 3).trans rfl
  have m3_ := (blk_cell N1.out 3).trans rfl
  have n4_ := (blk_cell N0.out 4).trans rfl
  have m4_ := (blk_cell N1.out 4).trans rfl
  try dsimp only
  cases gy with
  | true =>
    go_wp2_with (go_at_call 9; refine HGY1.out.mono ?_)
    rintro e w4 ⟨rfl, hb⟩
    have HD4 := Lib.hid (HD6.out.trans (hb.mono HD6.out.size))
    clear hb
    try dsimp only
    go_wp2
    all_goals go_ret
    all_goals exact BEnd.mk rfl HD4.out
  | false =>
  go_wp2_with (go_at_call 9; refine HGY1.out.mono ?_)
  clear n0_ m0_ n1_ m1_ n2_ m2_ n3_ m3_ n4_ m4_
  rintro e w4 ⟨rfl, hb⟩
  have HD4 := Lib.hid (HD6.out.trans (hb.mono HD6.out.size))
  have M0 := Lib.hid ((hb.block _ (blk_lt N0.out)).trans N0.out)
  have M1 := Lib.hid ((hb.block _ (blk_lt N1.out)).trans N1.out)
  clear hb N0 N1 HD6
  have N0 := M0
  have N1 := M1
  clear M0 M1
  clear HGY1
  have n0_ := (blk_cell N0.out 0).trans rfl
  have m0_ := (blk_cell N1.out 0).trans rfl
  have n1_ := (blk_cell N0.out 1).trans rfl
  have m1_ := (blk_cell N1.out 1).trans rfl
  have n2_ := (blk_cell N0.out 2).trans rfl
  have m2_ := (blk_cell N1.out 2).trans rfl
  have n3_ := (blk_cell N0.out 3).trans rfl
  have m3_ := (blk_cell N1.out 3).trans rfl
  have n4_ := (blk_cell N0.out 4).trans rfl
  have m4_ := (blk_cell N1.out 4).trans rfl
  try dsimp only
  go_upto_region 6 with fail
  clear p1va p2va p3va p1vb p2vb p3vb
  clear n0_ n1_ n2_ n3_ n4_ m0_ m1_ m2_ m3_ m4_
  have HD : Hid (Below w.heap.size w w4.drew) := Lib.hid HD4.out.drew
  have D0 := Lib.hid ((show w4.drew.heap[w.heap.size]? = w4.heap[w.heap.size]? from rfl).trans N0.out)
  have D1 := Lib.hid ((show w4.drew.heap[w.heap.size + 1]? = w4.heap[w.heap.size + 1]? from rfl).trans N1.out)
  clear HD4 N0 N1
  have p0 := (blk_cell D0.out 0).trans rfl
  have q0 := (blk_cell D1.out 0).trans rfl
  have p1 := (blk_cell D0.out 1).trans rfl
  have q1 := (blk_cell D1.out 1).trans rfl
  have p2 := (blk_cell D0.out 2).trans rfl
  have q2 := (blk_cell D1.out 2).trans rfl
  have p3 := (blk_cell D0.out 3).trans rfl
  have q3 := (blk_cell D1.out 3).trans rfl
  have p4 := (blk_cell D0.out 4).trans rfl
  have q4 := (blk_cell D1.out 4).trans rfl
  have q0s : (s == s) = true := by simp
  have q0z : (z == z) = true := by simp
  have q0t : (t == t) = true := by simp
  refine start_ (n := 34) (S := fun w' => w'.cell? ⟨w.heap.size, 0, none⟩ = some (.int .i64 a0) ∧ w'.cell? ⟨w.heap.size, 1, none⟩ = some (.string a1) ∧ w'.cell? ⟨w.heap.size, 2, none⟩ = some (.int .i64 a2) ∧ w'.cell? ⟨w.heap.size, 3, none⟩ = some (.int .i64 a3) ∧ w'.cell? ⟨w.heap.size, 4, none⟩ = some (.slice A u c) ∧ w'.cell? ⟨w.heap.size + 1, 0, none⟩ = some (.int .i64 b0) ∧ w'.cell? ⟨w.heap.size + 1, 1, none⟩ = some (.string b1) ∧ w'.cell? ⟨w.heap.size + 1, 2, none⟩ = some (.int .i64 b2) ∧ w'.cell? ⟨w.heap.size + 1, 3, none⟩ = some (.int .i64 b3) ∧ w'.cell? ⟨w.heap.size + 1, 4, none⟩ = some (.slice B v d)) (ds := [31]) #[false, false, false, false, false, false, false, false, false, false, false, false, false, false, false, false, false, false, false, false, false, false, false, false, false, false, false, false, false, false, false, false, false, false] (by kernel_rfl) rfl rfl ⟨p0, p1, p2, p3, p4, q0, q1, q2, q3, q4⟩ (fun hHeld => ?_)
  generalize w4.drew = wd at HD D0 D1 p0 p1 p2 p3 p4 q0 q1 q2 q3 q4 hHeld ⊢
  refine take_ (i := 0) (N := some 31) (v := ?_) (a' := ?_) #[true, false, false, false, false, false, false, false, false, false, false, false, false, false, false, false, false, false, false, false, false, false, false, false, false, false, false, false, false, false, false, false, false, false] rfl rfl (by kernel_rfl) (fun _ _ _ h => h) (Or.inl ⟨by rfl, ?_⟩) hHeld ?_ ?_
  rotate_left
  · rintro w' ⟨s0, s1, s2, s3, s4, s5, s6, s7, s8, s9⟩
    go_simp
    with_reducible rfl
  rotate_left
  · simp only [Act.put, List.setIfInBounds_toArray, List.set_cons_zero, List.set_cons_succ, i64_w, i32_w]
    rfl
  refine take_ (i := 1) (N := some 32) (v := ?_) (a' := ?_) #[true, true, false, false, false, false, false, false, false, false, false, false, false, false, false, false, false, false, false, false, false, false, false, false, false, false, false, false, false, false, false, false, false, false] rfl rfl (by kernel_rfl) (fun _ _ _ h => h) (Or.inl ⟨by rfl, ?_⟩) hHeld ?_ ?_
  rotate_left
  · rintro w' ⟨s0, s1, s2, s3, s4, s5, s6, s7, s8, s9⟩
    go_simp
    with_reducible rfl
  rotate_left
  · simp only [Act.put, List.setIfInBounds_toArray, List.set_cons_zero, List.set_cons_succ, i64_w, i32_w]
    rfl
  refine take_ (i := 3) (N := some 34) (v := ?_) (a' := ?_) #[true, true, false, true, false, false, false, false, false, false, false, false, false, false, false, false, false, false, false, false, false, false, false, false, false, false, false, false, false, false, false, false, false, false] rfl rfl (by kernel_rfl) (fun _ _ _ h => h) (Or.inl ⟨by rfl, ?_⟩) hHeld ?_ ?_
  rotate_left
  · rintro w' ⟨s0, s1, s2, s3, s4, s5, s6, s7, s8, s9⟩
    go_simp
    with_reducible rfl
  rotate_left
  · simp only [Act.put, List.setIfInBounds_toArray, List.set_cons_zero, List.set_cons_succ, i64_w, i32_w]
    rfl
  refine take_ (i := 4) (N := some 35) (v := ?_) (a' := ?_) #[true, true, false, true, true, false, false, false, false, false, false, false, false, false, false, false, false, false, false, false, false, false, false, false, false, false, false, false, false, false, false, false, false, false] rfl rfl (by kernel_rfl) (fun _ _ _ h => h) (Or.inl ⟨by rfl, ?_⟩) hHeld ?_ ?_
  rotate_left
  · rintro w' ⟨s0, s1, s2, s3, s4, s5, s6, s7, s8, s9⟩
    go_simp
    with_reducible rfl
  rotate_left
  · simp only [Act.put, List.setIfInBounds_toArray, List.set_cons_zero, List.set_cons_succ, i64_w, i32_w]
    rfl
  refine one_ (i := 2) (N := some 33) #[true, true, true, true, true, false, false, false, false, false, false, false, false, false, false, false, false, false, false, false, false, false, false, false, false, false, false, false, false, false, false, false, false, false] rfl rfl (by kernel_rfl) (by decide) (fun K hK => ?_)
  refine goes_ Tryz.func10 (by kernel_rfl) rfl #[.agg #[.int .i64 a0, .string a1, .int .i64 a2, .int .i64 a3, .slice A u c], .agg #[.int .i64 b0, .string b1, .int .i64 b2, .int .i64 b3, .slice B v d]] (by rfl) rfl rfl (by simp only [List.map_toArray, List.map_cons, List.map_nil]; rfl) ?_
  with_reducible refine (HAB.out _ HD.out).mono ?_
  rintro e x0 ⟨rfl, hb0⟩
  refine ⟨_, rfl, ?_⟩
  have HD0 := Lib.hid (HD.out.trans (hb0.mono HD.out.size))
  have E00 := Lib.hid ((hb0.block _ (blk_lt D0.out)).trans D0.out)
  have E01 := Lib.hid ((hb0.block _ (blk_lt D1.out)).trans D1.out)
  clear hb0
  refine hK.out _ _ ⟨(blk_cell E00.out 0).trans rfl, (blk_cell E00.out 1).trans rfl, (blk_cell E00.out 2).trans rfl, (blk_cell E00.out 3).trans rfl, (blk_cell E00.out 4).trans rfl, (blk_cell E01.out 0).trans rfl, (blk_cell E01.out 1).trans rfl, (blk_cell E01.out 2).trans rfl, (blk_cell E01.out 3).trans rfl, (blk_cell E01.out 4).trans rfl⟩ (fun hHeld => ?_)
  clear hK K
  refine norm_ (a' := ?_) ?_ ?_
  rotate_left
  · show Act.put _ (some 33) _ = _
    simp only [Act.put, List.setIfInBounds_toArray, List.set_cons_zero, List.set_cons_succ, i64_w, i32_w]
    rfl
  refine one_ (i := 5) (N := some 36) #[true, true, true, true, true, true, false, false, false, false, false, false, false, false, false, false, false, false, false, false, false, false, false, false, false, false, false, false, false, false, false, false, false, false] rfl rfl (by kernel_rfl) (by decide) (fun K hK => ?_)
  refine goes_ Tryz.func11 (by kernel_rfl) rfl #[.agg #[.int .i64 a0, .string a1, .int .i64 a2, .int .i64 a3, .slice A u c], .agg #[.int .i64 b0, .string b1, .int .i64 b2, .int .i64 b3, .slice B v d]] (by rfl) rfl rfl (by simp only [List.map_toArray, List.map_cons, List.map_nil]; rfl) ?_
  with_reducible refine (HRB.out _ HD0.out).mono ?_
  rintro e x1 ⟨rfl, hb1⟩
  refine ⟨_, rfl, ?_⟩
  have HD1 := Lib.hid (HD0.out.trans (hb1.mono HD0.out.size))
  have E10 := Lib.hid ((hb1.block _ (blk_lt E00.out)).trans E00.out)
  have E11 := Lib.hid ((hb1.block _ (blk_lt E01.out)).trans E01.out)
  clear hb1
  refine hK.out _ _ ⟨(blk_cell E10.out 0).trans rfl, (blk_cell E10.out 1).trans rfl, (blk_cell E10.out 2).trans rfl, (blk_cell E10.out 3).trans rfl, (blk_cell E10.out 4).trans rfl, (blk_cell E11.out 0).trans rfl, (blk_cell E11.out 1).trans rfl, (blk_cell E11.out 2).trans rfl, (blk_cell E11.out 3).trans rfl, (blk_cell E11.out 4).trans rfl⟩ (fun hHeld => ?_)
  clear hK K
  refine norm_ (a' := ?_) ?_ ?_
  rotate_left
  · show Act.put _ (some 36) _ = _
    simp only [Act.put, List.setIfInBounds_toArray, List.set_cons_zero, List.set_cons_succ, i64_w, i32_w]
    rfl
  refine pure_ (i := 6) (N := some 37) (v := ?_) (a' := ?_) #[true, true, true, true, true, true, true, false, false, false, false, false, false, false, false, false, false, false, false, false, false, false, false, false, false, false, false, false, false, false, false, false, false, false] rfl rfl (by kernel_rfl) (fun _ _ _ h => h) (Or.inl ⟨by rfl, ?_⟩) ?_ ?_
  rotate_left
  · intro w'
    go_simp
    with_reducible rfl
  rotate_left
  · simp only [Act.put, List.setIfInBounds_toArray, List.set_cons_zero, List.set_cons_succ, i64_w, i32_w]
    rfl
  refine pure_ (i := 7) (N := some 38) (v := ?_) (a' := ?_) #[true, true, true, true, true, true, true, true, false, false, false, false, false, false, false, false, false, false, false, false, false, false, false, false, false, false, false, false, false, false, false, false, false, false] rfl rfl (by kernel_rfl) (fun _ _ _ h => h) (Or.inl ⟨by rfl, ?_⟩) ?_ ?_
  rotate_left
  · intro w'
    go_simp
    with_reducible rfl
  rotate_left
  · simp only [Act.put, List.setIfInBounds_toArray, List.set_cons_zero, List.set_cons_succ, i64_w, i32_w]
    rfl
  refine take_ (i := 8) (N := some 39) (v := ?_) (a' := ?_) #[true, true, true, true, true, true, true, true, true, false, false, false, false, false, false, false, false, false, false, false, false, false, false, false, false, false, false, false, false, false, false, false, false, false] rfl rfl (by kernel_rfl) (fun _ _ _ h => h) (Or.inl ⟨by rfl, ?_⟩) hHeld ?_ ?_
  rotate_left
  · rintro w' ⟨s0, s1, s2, s3, s4, s5, s6, s7, s8, s9⟩
    go_simp
    with_reducible rfl
  rotate_left
  · simp only [Act.put, List.setIfInBounds_toArray, List.set_cons_zero, List.set_cons_succ, i64_w, i32_w]
    rfl
  refine take_ (i := 10) (N := some 41) (v := ?_) (a' := ?_) #[true, true, true, true, true, true, true, true, true, false, true, false, false, false, false, false, false, false, false, false, false, false, false, false, false, false, false, false, false, false, false, false, false, false] rfl rfl (by kernel_rfl) (fun _ _ _ h => h) (Or.inl ⟨by rfl, ?_⟩) hHeld ?_ ?_
  rotate_left
  · rintro w' ⟨s0, s1, s2, s3, s4, s5, s6, s7, s8, s9⟩
    go_simp
    with_reducible rfl
  rotate_left
  · simp only [Act.put, List.setIfInBounds_toArray, List.set_cons_zero, List.set_cons_succ, i64_w, i32_w]
    rfl
  refine one_ (i := 9) (N := some 40) #[true, true, true, true, true, true, true, true, true, true, true, false, false, false, false, false, false, false, false, false, false, false, false, false, false, false, false, false, false, false, false, false, false, false] rfl rfl (by kernel_rfl) (by decide) (fun K hK => ?_)
  refine goes_ Tryz.func12 (by kernel_rfl) rfl #[.agg #[.int .i64 a0, .string a1, .int .i64 a2, .int .i64 a3, .slice A u c]] (by rfl) rfl rfl (by simp only [List.map_toArray, List.map_cons, List.map_nil]; rfl) ?_
  with_reducible refine (HSZ.out _ HD1.out).mono ?_
  rintro e x2 ⟨rfl, hb2⟩
  refine ⟨_, rfl, ?_⟩
  have HD2 := Lib.hid (HD1.out.trans (hb2.mono HD1.out.size))
  have E20 := Lib.hid ((hb2.block _ (blk_lt E10.out)).trans E10.out)
  have E21 := Lib.hid ((hb2.block _ (blk_lt E11.out)).trans E11.out)
  clear hb2
  refine hK.out _ _ ⟨(blk_cell E20.out 0).trans rfl, (blk_cell E20.out 1).trans rfl, (blk_cell E20.out 2).trans rfl, (blk_cell E20.out 3).trans rfl, (blk_cell E20.out 4).trans rfl, (blk_cell E21.out 0).trans rfl, (blk_cell E21.out 1).trans rfl, (blk_cell E21.out 2).trans rfl, (blk_cell E21.out 3).trans rfl, (blk_cell E21.out 4).trans rfl⟩ (fun hHeld => ?_)
  clear hK K
  refine norm_ (a' := ?_) ?_ ?_
  rotate_left
  · show Act.put _ (some 40) _ = _
    simp only [Act.put, List.setIfInBounds_toArray, List.set_cons_zero, List.set_cons_succ, i64_w, i32_w]
    rfl
  refine one_ (i := 11) (N := some 42) #[true, true, true, true, true, true, true, true, true, true, true, true, false, false, false, false, false, false, false, false, false, false, false, false, false, false, false, false, false, false, false, false, false, false] rfl rfl (by kernel_rfl) (by decide) (fun K hK => ?_)
  refine goes_ Tryz.func13 (by kernel_rfl) rfl #[.agg #[.int .i64 a0, .string a1, .int .i64 a2, .int .i64 a3, .slice A u c]] (by rfl) rfl rfl (by simp only [List.map_toArray, List.map_cons, List.map_nil]; rfl) ?_
  with_reducible refine (HRZ.out _ HD2.out).mono ?_
  rintro e x3 ⟨rfl, hb3⟩
  refine ⟨_, rfl, ?_⟩
  have HD3 := Lib.hid (HD2.out.trans (hb3.mono HD2.out.size))
  have E30 := Lib.hid ((hb3.block _ (blk_lt E20.out)).trans E20.out)
  have E31 := Lib.hid ((hb3.block _ (blk_lt E21.out)).trans E21.out)
  clear hb3
  refine hK.out _ _ ⟨(blk_cell E30.out 0).trans rfl, (blk_cell E30.out 1).trans rfl, (blk_cell E30.out 2).trans rfl, (blk_cell E30.out 3).trans rfl, (blk_cell E30.out 4).trans rfl, (blk_cell E31.out 0).trans rfl, (blk_cell E31.out 1).trans rfl, (blk_cell E31.out 2).trans rfl, (blk_cell E31.out 3).trans rfl, (blk_cell E31.out 4).trans rfl⟩ (fun hHeld => ?_)
  clear hK K
  refine norm_ (a' := ?_) ?_ ?_
  rotate_left
  · show Act.put _ (some 42) _ = _
    simp only [Act.put, List.setIfInBounds_toArray, List.set_cons_zero, List.set_cons_succ, i64_w, i32_w]
    rfl
  refine pure_ (i := 12) (N := some 43) (v := ?_) (a' := ?_) #[true, true, true, true, true, true, true, true, true, true, true, true, true, false, false, false, false, false, false, false, false, false, false, false, false, false, false, false, false, false, false, false, false, false] rfl rfl (by kernel_rfl) (fun _ _ _ h => h) (Or.inl ⟨by rfl, ?_⟩) ?_ ?_
  rotate_left
  · intro w'
    go_simp
    with_reducible rfl
  rotate_left
  · simp only [Act.put, List.setIfInBounds_toArray, List.set_cons_zero, List.set_cons_succ, i64_w, i32_w]
    rfl
  refine pure_ (i := 13) (N := some 44) (v := ?_) (a' := ?_) #[true, true, true, true, true, true, true, true, true, true, true, true, true, true, false, false, false, false, false, false, false, false, false, false, false, false, false, false, false, false, false, false, false, false] rfl rfl (by kernel_rfl) (fun _ _ _ h => h) (Or.inl ⟨by rfl, ?_⟩) ?_ ?_
  rotate_left
  · intro w'
    go_simp
    with_reducible rfl
  rotate_left
  · simp only [Act.put, List.setIfInBounds_toArray, List.set_cons_zero, List.set_cons_succ, i64_w, i32_w]
    rfl
  refine pure_ (i := 14) (N := some 45) (v := ?_) (a' := ?_) #[true, true, true, true, true, true, true, true, true, true, true, true, true, true, true, false, false, false, false, false, false, false, false, false, false, false, false, false, false, false, false, false, false, false] rfl rfl (by kernel_rfl) (fun _ _ _ h => h) (Or.inl ⟨by rfl, ?_⟩) ?_ ?_
  rotate_left
  · intro w'
    go_simp
    with_reducible rfl
  rotate_left
  · simp only [Act.put, List.setIfInBounds_toArray, List.set_cons_zero, List.set_cons_succ, i64_w, i32_w]
    rfl
  refine pure_ (i := 15) (N := some 46) (v := ?_) (a' := ?_) #[true, true, true, true, true, true, true, true, true, true, true, true, true, true, true, true, false, false, false, false, false, false, false, false, false, false, false, false, false, false, false, false, false, false] rfl rfl (by kernel_rfl) (fun _ _ _ h => h) (Or.inl ⟨by rfl, ?_⟩) ?_ ?_
  rotate_left
  · intro w'
    go_simp
    with_reducible rfl
  rotate_left
  · simp only [Act.put, List.setIfInBounds_toArray, List.set_cons_zero, List.set_cons_succ, i64_w, i32_w]
    rfl
  refine pure_ (i := 16) (N := some 47) (v := ?_) (a' := ?_) #[true, true, true, true, true, true, true, true, true, true, true, true, true, true, true, true, true, false, false, false, false, false, false, false, false, false, false, false, false, false, false, false, false, false] rfl rfl (by kernel_rfl) (fun _ _ _ h => h) (Or.inl ⟨by rfl, ?_⟩) ?_ ?_
  rotate_left
  · intro w'
    go_simp
    with_reducible rfl
  rotate_left
  · simp only [Act.put, List.setIfInBounds_toArray, List.set_cons_zero, List.set_cons_succ, i64_w, i32_w]
    rfl
  refine pure_ (i := 18) (N := some 49) (v := ?_) (a' := ?_) #[true, true, true, true, true, true, true, true, true, true, true, true, true, true, true, true, true, false, true, false, false, false, false, false, false, false, false, false, false, false, false, false, false, false] rfl rfl (by kernel_rfl) (fun _ _ _ h => h) (Or.inl ⟨by rfl, ?_⟩) ?_ ?_
  rotate_left
  · intro w'
    go_simp
    with_reducible rfl
  rotate_left
  · simp only [Act.put, List.setIfInBounds_toArray, List.set_cons_zero, List.set_cons_succ, i64_w, i32_w]
    rfl
  refine pure_ (i := 19) (N := some 50) (v := ?_) (a' := ?_) #[true, true, true, true, true, true, true, true, true, true, true, true, true, true, true, true, true, false, true, true, false, false, false, false, false, false, false, false, false, false, false, false, false, false] rfl rfl (by kernel_rfl) (fun _ _ _ h => h) (Or.inl ⟨by rfl, ?_⟩) ?_ ?_
  rotate_left
  · intro w'
    go_simp
    with_reducible rfl
  rotate_left
  · simp only [Act.put, List.setIfInBounds_toArray, List.set_cons_zero, List.set_cons_succ, i64_w, i32_w]
    rfl
  refine one_ (i := 17) (N := some 48) #[true, true, true, true, true, true, true, true, true, true, true, true, true, true, true, true, true, true, true, true, false, false, false, false, false, false, false, false, false, false, false, false, false, false] rfl rfl (by kernel_rfl) (by decide) (fun K hK => ?_)
  refine goes_ Tryz.func14 (by kernel_rfl) rfl #[.slice X n0 m0, .slice Y n1 m1] (by rfl) rfl rfl (by simp only [List.map_toArray, List.map_cons, List.map_nil]; rfl) ?_
  with_reducible refine (HIT.out _ HD3.out).mono ?_
  rintro e x4 ⟨rfl, hb4⟩
  refine ⟨_, rfl, ?_⟩
  have HD4 := Lib.hid (HD3.out.trans (hb4.mono HD3.out.size))
  have E40 := Lib.hid ((hb4.block _ (blk_lt E30.out)).trans E30.out)
  have E41 := Lib.hid ((hb4.block _ (blk_lt E31.out)).trans E31.out)
  clear hb4
  refine hK.out _ _ ⟨(blk_cell E40.out 0).trans rfl, (blk_cell E40.out 1).trans rfl, (blk_cell E40.out 2).trans rfl, (blk_cell E40.out 3).trans rfl, (blk_cell E40.out 4).trans rfl, (blk_cell E41.out 0).trans rfl, (blk_cell E41.out 1).trans rfl, (blk_cell E41.out 2).trans rfl, (blk_cell E41.out 3).trans rfl, (blk_cell E41.out 4).trans rfl⟩ (fun hHeld => ?_)
  clear hK K
  refine norm_ (a' := ?_) ?_ ?_
  rotate_left
  · show Act.put _ (some 48) _ = _
    simp only [Act.put, List.setIfInBounds_toArray, List.set_cons_zero, List.set_cons_succ, i64_w, i32_w]
    rfl
  refine one_ (i := 20) (N := some 51) #[true, true, true, true, true, true, true, true, true, true, true, true, true, true, true, true, true, true, true, true, true, false, false, false, false, false, false, false, false, false, false, false, false, false] rfl rfl (by kernel_rfl) (by decide) (fun K hK => ?_)
  refine goes_ Tryz.func15 (by kernel_rfl) rfl #[.slice X n0 m0, .slice Y n1 m1] (by rfl) rfl rfl (by simp only [List.map_toArray, List.map_cons, List.map_nil]; rfl) ?_
  with_reducible refine (HRI.out _ HD4.out).mono ?_
  rintro e x5 ⟨rfl, hb5⟩
  refine ⟨_, rfl, ?_⟩
  have HD5 := Lib.hid (HD4.out.trans (hb5.mono HD4.out.size))
  have E50 := Lib.hid ((hb5.block _ (blk_lt E40.out)).trans E40.out)
  have E51 := Lib.hid ((hb5.block _ (blk_lt E41.out)).trans E41.out)
  clear hb5
  refine hK.out _ _ ⟨(blk_cell E50.out 0).trans rfl, (blk_cell E50.out 1).trans rfl, (blk_cell E50.out 2).trans rfl, (blk_cell E50.out 3).trans rfl, (blk_cell E50.out 4).trans rfl, (blk_cell E51.out 0).trans rfl, (blk_cell E51.out 1).trans rfl, (blk_cell E51.out 2).trans rfl, (blk_cell E51.out 3).trans rfl, (blk_cell E51.out 4).trans rfl⟩ (fun hHeld => ?_)
  clear hK K
  refine norm_ (a' := ?_) ?_ ?_
  rotate_left
  · show Act.put _ (some 51) _ = _
    simp only [Act.put, List.setIfInBounds_toArray, List.set_cons_zero, List.set_cons_succ, i64_w, i32_w]
    rfl
  refine pure_ (i := 21) (N := some 52) (v := ?_) (a' := ?_) #[true, true, true, true, true, true, true, true, true, true, true, true, true, true, true, true, true, true, true, true, true, true, false, false, false, false, false, false, false, false, false, false, false, false] rfl rfl (by kernel_rfl) (fun _ _ _ h => h) (Or.inl ⟨by rfl, ?_⟩) ?_ ?_
  rotate_left
  · intro w'
    go_simp
    with_reducible rfl
  rotate_left
  · simp only [Act.put, List.setIfInBounds_toArray, List.set_cons_zero, List.set_cons_succ, i64_w, i32_w]
    rfl
  refine pure_ (i := 22) (N := some 53) (v := ?_) (a' := ?_) #[true, true, true, true, true, true, true, true, true, true, true, true, true, true, true, true, true, true, true, true, true, true, true, false, false, false, false, false, false, false, false, false, false, false] rfl rfl (by kernel_rfl) (fun _ _ _ h => h) (Or.inl ⟨by rfl, ?_⟩) ?_ ?_
  rotate_left
  · intro w'
    go_simp
    with_reducible rfl
  rotate_left
  · simp only [Act.put, List.setIfInBounds_toArray, List.set_cons_zero, List.set_cons_succ, i64_w, i32_w]
    rfl
  refine pure_ (i := 23) (N := some 54) (v := ?_) (a' := ?_) #[true, true, true, true, true, true, true, true, true, true, true, true, true, true, true, true, true, true, true, true, true, true, true, true, false, false, false, false, false, false, false, false, false, false] rfl rfl (by kernel_rfl) (fun _ _ _ h => h) (Or.inl ⟨by rfl, ?_⟩) ?_ ?_
  rotate_left
  · intro w'
    go_simp
    with_reducible rfl
  rotate_left
  · simp only [Act.put, List.setIfInBounds_toArray, List.set_cons_zero, List.set_cons_succ, i64_w, i32_w]
    rfl
  refine take_ (i := 24) (N := some 55) (v := ?_) (a' := ?_) #[true, true, true, true, true, true, true, true, true, true, true, true, true, true, true, true, true, true, true, true, true, true, true, true, true, false, false, false, false, false, false, false, false, false] rfl rfl (by kernel_rfl) (fun _ _ _ h => h) (Or.inl ⟨by rfl, ?_⟩) hHeld ?_ ?_
  rotate_left
  · rintro w' ⟨s0, s1, s2, s3, s4, s5, s6, s7, s8, s9⟩
    go_simp
    with_reducible rfl
  rotate_left
  · simp only [Act.put, List.setIfInBounds_toArray, List.set_cons_zero, List.set_cons_succ, i64_w, i32_w]
    rfl
  refine take_ (i := 25) (N := some 56) (v := ?_) (a' := ?_) #[true, true, true, true, true, true, true, true, true, true, true, true, true, true, true, true, true, true, true, true, true, true, true, true, true, true, false, false, false, false, false, false, false, false] rfl rfl (by kernel_rfl) (fun _ _ _ h => h) (Or.inl ⟨by rfl, ?_⟩) hHeld ?_ ?_
  rotate_left
  · rintro w' ⟨s0, s1, s2, s3, s4, s5, s6, s7, s8, s9⟩
    go_simp
    with_reducible rfl
  rotate_left
  · simp only [Act.put, List.setIfInBounds_toArray, List.set_cons_zero, List.set_cons_succ, i64_w, i32_w]
    rfl
  refine one_ (i := 26) (N := some 57) #[true, true, true, true, true, true, true, true, true, true, true, true, true, true, true, true, true, true, true, true, true, true, true, true, true, true, true, false, false, false, false, false, false, false] rfl rfl (by kernel_rfl) (by decide) (fun K hK => ?_)
  refine goes_ Tryz.func10 (by kernel_rfl) rfl #[.agg #[.int .i64 a0, .string a1, .int .i64 a2, .int .i64 a3, .slice A u c], .agg #[.int .i64 a0, .string a1, .int .i64 a2, .int .i64 a3, .slice A u c]] (by rfl) rfl rfl (by simp only [List.map_toArray, List.map_cons, List.map_nil]; rfl) ?_
  with_reducible refine (HAA.out _ HD5.out).mono ?_
  rintro e x6 ⟨rfl, hb6⟩
  refine ⟨_, rfl, ?_⟩
  have HD6 := Lib.hid (HD5.out.trans (hb6.mono HD5.out.size))
  have E60 := Lib.hid ((hb6.block _ (blk_lt E50.out)).trans E50.out)
  have E61 := Lib.hid ((hb6.block _ (blk_lt E51.out)).trans E51.out)
  clear hb6
  refine hK.out _ _ ⟨(blk_cell E60.out 0).trans rfl, (blk_cell E60.out 1).trans rfl, (blk_cell E60.out 2).trans rfl, (blk_cell E60.out 3).trans rfl, (blk_cell E60.out 4).trans rfl, (blk_cell E61.out 0).trans rfl, (blk_cell E61.out 1).trans rfl, (blk_cell E61.out 2).trans rfl, (blk_cell E61.out 3).trans rfl, (blk_cell E61.out 4).trans rfl⟩ (fun hHeld => ?_)
  clear hK K
  refine norm_ (a' := ?_) ?_ ?_
  rotate_left
  · show Act.put _ (some 57) _ = _
    simp only [Act.put, List.setIfInBounds_toArray, List.set_cons_zero, List.set_cons_succ, i64_w, i32_w]
    rfl
  refine pure_ (i := 27) (N := some 58) (v := ?_) (a' := ?_) #[true, true, true, true, true, true, true, true, true, true, true, true, true, true, true, true, true, true, true, true, true, true, true, true, true, true, true, true, false, false, false, false, false, false] rfl rfl (by kernel_rfl) (fun _ _ _ h => h) (Or.inl ⟨by rfl, ?_⟩) ?_ ?_
  rotate_left
  · intro w'
    go_simp
    with_reducible rfl
  rotate_left
  · simp only [Act.put, List.setIfInBounds_toArray, List.set_cons_zero, List.set_cons_succ, i64_w, i32_w]
    rfl
  refine pure_ (i := 28) (N := some 59) (v := ?_) (a' := ?_) #[true, true, true, true, true, true, true, true, true, true, true, true, true, true, true, true, true, true, true, true, true, true, true, true, true, true, true, true, true, false, false, false, false, false] rfl rfl (by kernel_rfl) (fun _ _ _ h => h) (Or.inl ⟨by rfl, ?_⟩) ?_ ?_
  rotate_left
  · intro w'
    go_simp
    with_reducible rfl
  rotate_left
  · simp only [Act.put, List.setIfInBounds_toArray, List.set_cons_zero, List.set_cons_succ, i64_w, i32_w]
    rfl
  refine pure_ (i := 29) (N := some 60) (v := ?_) (a' := ?_) #[true, true, true, true, true, true, true, true, true, true, true, true, true, true, true, true, true, true, true, true, true, true, true, true, true, true, true, true, true, true, false, false, false, false] rfl rfl (by kernel_rfl) (fun _ _ _ h => h) (Or.inl ⟨by rfl, ?_⟩) ?_ ?_
  rotate_left
  · intro w'
    go_simp
    with_reducible rfl
  rotate_left
  · simp only [Act.put, List.setIfInBounds_toArray, List.set_cons_zero, List.set_cons_succ, i64_w, i32_w]
    rfl
  refine pure_ (i := 30) (N := some 61) (v := ?_) (a' := ?_) #[true, true, true, true, true, true, true, true, true, true, true, true, true, true, true, true, true, true, true, true, true, true, true, true, true, true, true, true, true, true, true, false, false, false] rfl rfl (by kernel_rfl) (fun _ _ _ h => h) (Or.inl ⟨by rfl, ?_⟩) ?_ ?_
  rotate_left
  · intro w'
    go_simp
    with_reducible rfl
  rotate_left
  · simp only [Act.put, List.setIfInBounds_toArray, List.set_cons_zero, List.set_cons_succ, i64_w, i32_w]
    rfl
  refine last_ (i := 31) (N := some 62) #[true, true, true, true, true, true, true, true, true, true, true, true, true, true, true, true, true, true, true, true, true, true, true, true, true, true, true, true, true, true, true, true, false, false] rfl rfl (by kernel_rfl) (by decide) (fun K hK => ?_)
  refine goes_ Tryz.func14 (by kernel_rfl) rfl #[.slice X n0 m0, .slice X n0 m0] (by rfl) rfl rfl (by simp only [List.map_toArray, List.map_cons, List.map_nil]; rfl) ?_
  with_reducible refine (HLL.out _ HD6.out).mono ?_
  rintro e x7 ⟨rfl, hb7⟩
  refine ⟨_, rfl, ?_⟩
  have HD7 := Lib.hid (HD6.out.trans (hb7.mono HD6.out.size))
  have E70 := Lib.hid ((hb7.block _ (blk_lt E60.out)).trans E60.out)
  have E71 := Lib.hid ((hb7.block _ (blk_lt E61.out)).trans E61.out)
  clear hb7
  refine hK.out _ _ ?_
  clear hK K
  refine norm_ (a' := ?_) ?_ ?_
  rotate_left
  · show Act.put _ (some 62) _ = _
    simp only [Act.put, List.setIfInBounds_toArray, List.set_cons_zero, List.set_cons_succ, i64_w, i32_w]
    rfl
  refine pure_ (i := 32) (N := some 63) (v := ?_) (a' := ?_) #[true, true, true, true, true, true, true, true, true, true, true, true, true, true, true, true, true, true, true, true, true, true, true, true, true, true, true, true, true, true, true, true, true, false] rfl rfl (by kernel_rfl) (fun _ _ _ h => h) (Or.inl ⟨by rfl, ?_⟩) ?_ ?_
  rotate_left
  · intro w'
    go_simp
    with_reducible rfl
  rotate_left
  · simp only [Act.put, List.setIfInBounds_toArray, List.set_cons_zero, List.set_cons_succ, i64_w, i32_w]
    rfl
  refine pure_ (i := 33) (N := some 6) (v := ?_) (a' := ?_) #[true, true, true, true, true, true, true, true, true, true, true, true, true, true, true, true, true, true, true, true, true, true, true, true, true, true, true, true, true, true, true, true, true, true] rfl rfl (by kernel_rfl) (fun _ _ _ h => h) (Or.inl ⟨by rfl, ?_⟩) ?_ ?_
  rotate_left
  · intro w'
    go_simp
    with_reducible rfl
  rotate_left
  · simp only [Act.put, List.setIfInBounds_toArray, List.set_cons_zero, List.set_cons_succ, i64_w, i32_w]
    rfl
  refine done_ (by kernel_rfl) ?_
  try dsimp only
  go_wp2
  go_ret
  exact BEnd.mk rfl HD7.out
end Go.Proofs.YtkcochfaadfchaaGreatDoor.XA
end
section
set_option linter.unusedVariables false
set_option linter.unusedSimpArgs false
namespace Go.Proofs.YtkcochfaadfchaaGreatDoor.XA
set_option linter.unusedSimpArgs false
set_option linter.unusedVariables false
open Go.RowKit Go.Proofs.YtkcochfaadfchaaGreatDoor.XO Go.WideShapes
open Go.Proofs.YtkcochfaadfchaaGreatDoorW.PrintWords Go.Proofs.YtkcochfaadfchaaGreatDoorW.PrintLast Go.Proofs.YtkcochfaadfchaaGreatDoorW.PrintMore
theorem okWide_array {P : Program} {w : World} {r : Reach} {base : Nat} {t : TypeId} {v : Value} {n : Nat} {e : TypeId} (ht : P.underlying t = some (.array n e)) (h : Value.okWide P w r base t v) : ∃ cs, v = .agg cs ∧ cs.size = P.cellsOf t := by
  simp only [Value.okWide, ht] at h
  obtain ⟨cs, h1, h2, _⟩ := h
  exact ⟨cs, h1, h2⟩
section
variable {H : Type} {enc : TypeId × Value → H}
theorem b_item : Tryz.prog.bytesOf 39 = 176 := by kernel_rfl
theorem c_items2 : Tryz.prog.cellsOf 26 = 2 := by kernel_rfl
theorem c_items : Tryz.prog.cellsOf 25 = 1 := by kernel_rfl
set_option maxRecDepth 100000 in
theorem open_items2 {W : World} {base : Nat} {v : Value} {d : DataW H} {p : List MemPlace} (hv : Value.okWide Tryz.prog W .any base 26 v) (h : DataW.Trod enc Tryz.prog W 0 (fun _ => true) true 26 v d p) (hf : fit (d.weights Tryz.prog 26)) :
    ∃ (x y : List ES.Itm) (A : Option Addr) (c : Nat) (B : Option Addr) (e : Nat), v = .agg #[.slice A x.length c, .slice B y.length e] ∧ x.length ≤ c ∧ Kd.C kItem W A x.length x ∧ y.length ≤ e ∧ Kd.C kItem W B y.length y ∧ (∀ q, q ∈ x → wfI q) ∧ x.length * 176 ≤ reachBytes ∧ (∀ q, q ∈ y → wfI q) ∧ y.length * 176 ≤ reachBytes := by
  obtain ⟨cs, rfl, _⟩ := okWide_array Tryz.underlying26 hv
  obtain ⟨n, hn⟩ := h
  obtain ⟨xs, m, _, hx, hl, hxl, hF⟩ := DataW.trod_array Tryz.underlying26 hn
  rw [c_items2] at hl
  have h0 := hF 0 (by omega)
  have h1 := hF 1 (by omega)
  rw [c_items] at h0 h1
  match xs, hxl, hx, h0, h1 with
  | [y0, y1], _, hx, h0, h1 =>
    have hd : d = .agg [y0.1, y1.1] := congrArg Prod.fst hx
    rw [hd] at hf
    have hw : fit (y0.1.weights Tryz.prog 25 ++ (y1.1.weights Tryz.prog 25 ++ [])) := by
      have h2 := hf
      simp only [DataW.weights, Tryz.underlying26, DataW.weightsAll] at h2
      exact h2
    obtain ⟨z0, hw⟩ := fit_app hw
    obtain ⟨z1, _⟩ := fit_app hw
    obtain ⟨vs, hvs⟩ : ∃ vs, vs = cs.toList := ⟨_, rfl⟩
    have hl : cs.toList.length = 2 := hl
    have h0 : DataW.trod enc Tryz.prog W 0 (fun _ => true) true m 25 ((cs.toList.drop (0 * 1)).take 1) = some y0 := h0
    have h1 : DataW.trod enc Tryz.prog W 0 (fun _ => true) true m 25 ((cs.toList.drop (1 * 1)).take 1) = some y1 := h1
    rw [← hvs] at hl h0 h1
    match vs, hl, hvs, h0, h1 with
    | [v0, v1], _, hvs, h0, h1 =>
      obtain ⟨x, ⟨A, c, e, l, g⟩, hq⟩ := at_slice (d := kItem) (q := wfI) Tryz.underlying25 c_item (fun m' _ => item_at m') _ _ h0 z0
      obtain ⟨y, ⟨B, c', e', l', g'⟩, hq'⟩ := at_slice (d := kItem) (q := wfI) Tryz.underlying25 c_item (fun m' _ => item_at m') _ _ h1 z1
      obtain rfl := one_eq e
      obtain rfl := one_eq e'
      rw [b_item] at hq hq'
      refine ⟨x, y, A, c, B, c', ?_, l, g, l', g', hq.1, hq.2, hq'.1, hq'.2⟩
      rw [← Array.toArray_toList (xs := cs), ← hvs]
end
end Go.Proofs.YtkcochfaadfchaaGreatDoor.XA
end
section
set_option linter.unusedVariables false
set_option linter.unusedSimpArgs false
namespace Go.Proofs.YtkcochfaadfchaaGreatDoor.XA.exprSames
open Go.ChangeShapes Go.WideShapes Go.ChangeAt Go.RowKit
open Go.ChangeMaps (open_string shut_string)
theorem reads (os : Os) {H : Type} (enc : TypeId × Value → H) : ∃ places, DataW.whole enc Tryz.prog ((laidWorld os).forCall (fun _ _ => 0) ⟨#[], #[.agg #[.int .i64 0, .string ⟨#[]⟩, .int .i64 0, .int .i64 0, .slice none 0 0], .agg #[.int .i64 0, .string ⟨#[]⟩, .int .i64 0, .int .i64 0, .slice none 0 0], .agg #[.slice none 0 0, .slice none 0 0]], []⟩).memory Tryz.f3.params.toList Rows.exprSamesSpec.vars false (#[.agg #[.int .i64 0, .string ⟨#[]⟩, .int .i64 0, .int .i64 0, .slice none 0 0], .agg #[.int .i64 0, .string ⟨#[]⟩, .int .i64 0, .int .i64 0, .slice none 0 0], .agg #[.slice none 0 0, .slice none 0 0]] : Array Value).toList 8 = some ([.agg [.lit (.int .i64 0), .lit (.string []), .lit (.int .i64 0), .lit (.int .i64 0), .nil], .agg [.lit (.int .i64 0), .lit (.string []), .lit (.int .i64 0), .lit (.int .i64 0), .nil], .agg [.nil, .nil]], [], places) :=
  ⟨[], by kernel_rfl⟩
set_option maxRecDepth 100000 in
theorem lifted (os : Os) (started : os.Started) (H : Type) (enc : TypeId × Value → H) (F : Stop.Interp) :
    ReturnsInHanded {} Tryz.checked os 3 .any ((OpenSpec.ofChange Rows.exprSamesSpec).preRow enc Tryz.prog Tryz.f3 Rows.exprSamesRow.domain false Rows.exprSamesRow.laid) (((OpenSpec.ofChange Rows.exprSamesSpec).at F).post enc Tryz.prog Tryz.f3 false true false false) := by
  obtain ⟨places, hx⟩ := reads os enc
  refine returnsInHanded_of_row (C := Tryz.checked) (s := OpenSpec.ofChange Rows.exprSamesSpec) own started (by kernel_rfl) Tryz.func3
    (witness_row_atRef (enc := enc) (C := Tryz.checked) false (laidWorld os) #[.agg #[.int .i64 0, .string ⟨#[]⟩, .int .i64 0, .int .i64 0, .slice none 0 0], .agg #[.int .i64 0, .string ⟨#[]⟩, .int .i64 0, .int .i64 0, .slice none 0 0], .agg #[.slice none 0 0, .slice none 0 0]] rfl (by kernel_rfl) (by kernel_rfl) (by kernel_rfl)
      (OpenSpec.preRow_of_cond 8 hx (by kernel_rfl) (fun k hk => by cases hk) (by kernel_rfl) (laid_met os _))) ?_
  intro W base args ds gs before hval0 hW _ _ hz0 hL hS _
  have hG : GOK W := gok_of_laid hL (size_of_shaped hS)
  have hval : ∀ (j : Nat) t v, Tryz.f3.params[j]? = some t → args[j]? = some v → Value.okWide Tryz.prog W .any base t v := hval0
  have hW' := hW
  obtain ⟨p, q, hA0, hV, rfl, _, _⟩ := hW
  have hA : DataW.TrodAll enc Tryz.prog W 0 (fun _ => true) true Tryz.f3.params.toList args.toList ds p := hA0
  rw [Tryz.params3] at hA hval
  obtain ⟨v0, vs0, d0, ds0, p0, q0, hargs, rfl, rfl, h0, r0⟩ := trodAll_cons hA
  obtain ⟨v1, vs1, d1, ds1, p1, q1, rfl, rfl, rfl, h1, r1⟩ := trodAll_cons r0
  obtain ⟨v2, vs2, d2, ds2, p2, q2, rfl, rfl, rfl, h2, r2⟩ := trodAll_cons r1
  have hz : XO.fit (DataW.weightsEach Tryz.prog (Tryz.f3.params.toList ++ (OpenSpec.ofChange Rows.exprSamesSpec).bare.plain.varTypes Tryz.prog) ((d0 :: d1 :: d2 :: ds2) ++ gs)) := hz0
  rw [Tryz.params3] at hz
  obtain ⟨rfl, rfl, rfl⟩ := trodAll_nil r2
  obtain rfl : args = #[v0, v1, v2] := by cases args; simp_all
  obtain ⟨rfl, rfl⟩ := trodVars_none hV
  have z0 := (XO.fit_app (show XO.fit (d0.weights Tryz.prog 24 ++ _) from hz)).1
  have hz := (XO.fit_app (show XO.fit (d0.weights Tryz.prog 24 ++ _) from hz)).2
  have lt0 : ∀ x ∈ p0, x.block < W.heap.size := by obtain ⟨m, hm⟩ := h0; exact DataW.trod_lt m _ _ _ hm
  obtain ⟨x0, A0, c0, rfl, l0, g0, w0⟩ := open_node (hval 0 24 v0 rfl rfl) h0 z0
  have z1 := (XO.fit_app (show XO.fit (d1.weights Tryz.prog 24 ++ _) from hz)).1
  have hz := (XO.fit_app (show XO.fit (d1.weights Tryz.prog 24 ++ _) from hz)).2
  have lt1 : ∀ x ∈ p1, x.block < W.heap.size := by obtain ⟨m, hm⟩ := h1; exact DataW.trod_lt m _ _ _ hm
  obtain ⟨x1, A1, c1, rfl, l1, g1, w1⟩ := open_node (hval 1 24 v1 rfl rfl) h1 z1
  have z2 := (XO.fit_app (show XO.fit (d2.weights Tryz.prog 26 ++ _) from hz)).1
  have hz := (XO.fit_app (show XO.fit (d2.weights Tryz.prog 26 ++ _) from hz)).2
  have lt2 : ∀ x ∈ p2, x.block < W.heap.size := by obtain ⟨m, hm⟩ := h2; exact DataW.trod_lt m _ _ _ hm
  obtain ⟨x2, y2, A2, c2, B2, e2, rfl, l2, g2, m2, k2, wx2, zx2, wy2, zy2⟩ := open_items2 (hval 2 26 v2 rfl rfl) h2 z2
  clear hA0 hval0
  refine (lawSames_calls x0 x1 A0 c0 A1 c1 x2 y2 A2 c2 B2 e2 W hG g0 l0 g1 l1 w0 w1 g2 l2 k2 m2 wx2 zx2 wy2 zy2).mono ?_
  rintro e W' ⟨rfl, bel⟩
  exact ⟨_, rfl, _, _, _, [], _, [], hW', trodAll_mk1 (shut_bool Tryz.underlying4 _), (trodAll_cons_mk (Below.trod laidOut (by kernel_rfl) (of_decide_eq_true (by kernel_rfl)) h0 bel lt0) (trodAll_cons_mk (Below.trod laidOut (by kernel_rfl) (of_decide_eq_true (by kernel_rfl)) h1 bel lt1) (trodAll_cons_mk (Below.trod laidOut (by kernel_rfl) (of_decide_eq_true (by kernel_rfl)) h2 bel lt2) trodAll_mk0))), rfl, bel.frame _, fun h => by cases h⟩
theorem said : Rows.ExprSamesSaid :=
  OpenClaim.holds_of_cond 3 Tryz.f3 rfl rfl rfl rfl rfl rfl rfl ⟨rfl, rfl, rfl, rfl, rfl⟩ rfl rfl rfl rfl rfl (by kernel_rfl) Tryz.func3 (by kernel_rfl)
    (of_decide_eq_true (by kernel_rfl)) (by unfold Func.isWrapper; first | (rw [if_pos (by decide +kernel)]; kernel_rfl) | (rw [if_neg (by decide +kernel)]; exact ⟨rfl, rfl⟩))
    (fun os started H enc _ F => by rw [OpenClaim.pre_eq_preRow]; exact lifted os started H enc F)
theorem plain (f : FuncId) (fn : Func) (hf : Tryz.pinned.checked.prog.funcNamed "caesura/caesuralaw06.ExprSames" = some f) (hfn : Tryz.pinned.checked.prog.funcs[f]? = some fn) :
    true = Tryz.pinned.checked.prog.looks [] ∧ ∀ (j : Nat) t, fn.params[j]? = some t → Tryz.pinned.checked.prog.wantsStandIn t = false := by
  obtain rfl : f = 3 := Option.some.inj ((show Tryz.prog.funcNamed "caesura/caesuralaw06.ExprSames" = some 3 by kernel_rfl).symm.trans hf) |>.symm
  obtain rfl : fn = Tryz.f3 := (Option.some.inj (Tryz.func3.symm.trans hfn)).symm
  refine ⟨by kernel_rfl, fun j t ht => ?_⟩
  rw [Tryz.params3] at ht
  have hm : t ∈ (#[24, 24, 26] : Array TypeId) := Array.mem_of_getElem? ht
  simp only [List.mem_toArray, List.mem_cons, List.not_mem_nil, or_false] at hm
  rcases hm with rfl | rfl | rfl
  · exact (show Tryz.prog.wantsStandIn 24 = false by kernel_rfl)
  · exact (show Tryz.prog.wantsStandIn 24 = false by kernel_rfl)
  · exact (show Tryz.prog.wantsStandIn 26 = false by kernel_rfl)
theorem card : Rows.ExprSamesCardSaid :=
  Claim7.holds_tied_plain_at .later [] _ _ _ _ said (fun _ h => by cases h) (by kernel_rfl) (fun _ h => by cases h) exprSames_row_tie rfl ⟨rfl, rfl⟩ (by kernel_rfl) rfl plain (by kernel_rfl)
end Go.Proofs.YtkcochfaadfchaaGreatDoor.XA.exprSames
namespace Go.Proofs.YtkcochfaadfchaaGreatDoor
theorem exprSames_card : Rows.ExprSamesCardSaid := XA.exprSames.card
end Go.Proofs.YtkcochfaadfchaaGreatDoor
end
