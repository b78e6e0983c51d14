/- Texts of this claim, packed. -/
import Derived.Test.YtlenlhnpmblicaaGreatDoorZW3
import Derived.Test.YtlenlhnpmblicaaGreatDoorZW5
import Derived.Deep.RegionHeld3
import Derived.Test.YtlenlhnpmblicaaGreatDoorProg
import Derived.Carry
import Derived.WalkKit
import Derived.Test.YtlenlhnpmblicaaGreatDoorZW1
import Derived.Test.YtlenlhnpmblicaaGreatDoorZW2
import Derived.Test.YtlenlhnpmblicaaGreatDoorZW4
section
set_option linter.unusedVariables false
set_option linter.unusedSimpArgs false
namespace Go.Proofs.YtlenlhnpmblicaaGreatDoor.XA
set_option linter.unusedSimpArgs false
set_option linter.unusedVariables false
open Go.RowKit
open Go.Proofs.YtlenlhnpmblicaaGreatDoorW.PrintWords Go.Proofs.YtlenlhnpmblicaaGreatDoorW.PrintLast Go.Proofs.YtlenlhnpmblicaaGreatDoorW.PrintMore
theorem two_blocks (w : World) (o0 o1 : Obj) : ((w.alloc o0).alloc o1).heap[w.heap.size]? = some o0 ∧ ((w.alloc o0).alloc o1).heap[w.heap.size + 1]? = some o1 ∧ Below w.heap.size w ((w.alloc o0).alloc o1) := by
 have e : ∀ i : Nat, ((w.alloc o0).alloc o1).heap[i]? = ((w.heap.push o0).push o1)[i]? := fun _ => rfl
 refine ⟨?_, ?_, below_alloc (below_alloc (Below.refl _ _) _) _⟩
 ·rw [e]; simp [Array.getElem?_push]
 ·rw [e, Array.getElem?_push, if_pos (by simp)]
def sameD (x y : S32) : Bool := x.f0 == y.f0 && x.f1 == y.f1 && x.f2 == y.f2 && x.f3.toList == y.f3.toList && x.f4 == y.f4 && (decide (x.f5.f0 = y.f5.f0) && x.f5.f1 == y.f5.f1)
def sameDs : List S32 → List S32 → Bool
 | [], [] => true
 | a :: ps, b :: qs => sameD a b && sameDs ps qs
 | [], _ :: _ => false
 | _ :: _, [] => false
theorem sameDs_len : ∀ (ps qs : List S32), ps.length ≠ qs.length → sameDs ps qs = false
 | [], [], h => absurd rfl h
 | a :: ps, b :: qs, h => by rw [sameDs, sameDs_len ps qs (by simpa using h), Bool.and_false]
 | [], b :: qs, _ => by rw [sameDs]
 | a :: ps, [], _ => by rw [sameDs]
theorem sameDs_at (ps qs : List S32) (i : Nat) (h : i < ps.length) (h' : i < qs.length) : sameDs (ps.drop i) (qs.drop i) = (sameD (rd_T32 ps (i : Int)) (rd_T32 qs (i : Int)) && sameDs (ps.drop (i + 1)) (qs.drop (i + 1))) := by
 rw [List.drop_eq_getElem_cons h, List.drop_eq_getElem_cons h', sameDs, rdT_getElem _ _ h, rdT_getElem _ _ h']
set_option maxRecDepth 100000 in
set_option maxHeartbeats 8000000 in
theorem same_calls (l0 l1 : List S32) (A0 : Option Addr) (c0 : Nat) (A1 : Option Addr) (c1 : Nat) (w : World) (h0 : Kd.C k32 w A0 l0.length l0) (h1 : Kd.C k32 w A1 l1.length l1) :
  Calls Tryz.prog 23 #[.slice A0 l0.length c0, .slice A1 l1.length c1] w fun e w' => e = .returned (.bool (sameDs l0 l1)) ∧ Below w.heap.size w w' := by
 have hm0 : l0.length ≤ 9223372036854775807 := h0.2.1
 have hm1 : l1.length ≤ 9223372036854775807 := h1.2.1
 have hT := Tryz.underlying32
 have hT2 := Tryz.underlying30
 obtain ⟨n, hn⟩ : ∃ n, l0.length = n := ⟨_, rfl⟩
 obtain ⟨m, hm⟩ : ∃ m, l1.length = m := ⟨_, rfl⟩
 by_cases hnm : n = m
 rotate_left
 ·have hS := sameDs_len l0 l1 (by omega)
  have e0 : ((n : Int) != (m : Int)) = true := bne_iff_ne.mpr (by omega)
  rw [hS, hn, hm]
  rw [hn] at hm0
  rw [hm] at hm1
  clear hnm hn hm hS h0 h1
  go_enter Tryz.func23, Tryz.ntmps23
  go_wp2
  go_ret
  exact ⟨rfl, Below.refl _ _⟩
 ·subst hnm
  have H0 : Hid (Kd.C k32 w A0 n l0) := Lib.hid (by rw [← hn]; exact h0)
  have H1 : Hid (Kd.C k32 w A1 n l1) := Lib.hid (by rw [← hm]; exact h1)
  have HN := Lib.hid hn
  have HM := Lib.hid hm
  have e0 : ((n : Int) != (n : Int)) = false := by simp
  have hnn : n ≤ 9223372036854775807 := by omega
  obtain ⟨z, hz⟩ : ∃ z, sameDs l0 l1 = z := ⟨_, rfl⟩
  have HZ : Hid (sameDs (l0.drop 0) (l1.drop 0) = z) := Lib.hid hz
  rw [hn, hm, hz]
  clear h0 h1 hn hm hm0 hm1 hz
  go_enter Tryz.func23, Tryz.ntmps23
  try simp only [List.append_eq, List.cons_append, List.nil_append]
  go_wp2_with fail
  go_loopg [5] n (fun j v5 wr => ∃ i : Nat, v5 = .int .i64 (i : Int) ∧ i + j = n ∧ Hid (sameDs (l0.drop i) (l1.drop i) = z) ∧ Hid (Below w.heap.size w wr))
  case atStart => exact ⟨0, rfl, by omega, HZ, Lib.hid (Below.refl _ _)⟩
  case round =>
   clear HZ
   obtain ⟨i, rfl, hij, HZ, HB⟩ := hrel
   by_cases hi : i < n
   rotate_left
   ·have hz2 := HZ.out
    have hin : i = n := by omega
    rw [List.drop_of_length_le (by have := HN.out; omega), List.drop_of_length_le (by have := HM.out; omega), sameDs] at hz2
    have HZ2 := Lib.hid hz2
    have p1 : ((i : Int) < (n : Int)) = False := eq_false (by omega)
    clear hz2 HZ hin hij
    go_wp2
    go_ret
    exact ⟨congrArg (fun b => Ending.returned (Value.bool b)) HZ2.out, HB.out⟩
   ·have C0 := Kd.C_below H0.out HB.out
    have C1 := Kd.C_below H1.out HB.out
    obtain ⟨ad, A5, c5, rfl, a0, a1, a2, a3, a4, a5, a6, l5, g5⟩ := at_T32 C0 (i : Int) (by omega) (by omega)
    obtain ⟨ae, B5, d5, rfl, e0_, e1_, e2_, e3_, e4_, e5, e6_, m5, k5⟩ := at_T32 C1 (i : Int) (by omega) (by omega)
    have hz2 := HZ.out
    rw [sameDs_at l0 l1 i (by have := HN.out; omega) (by have := HM.out; omega)] at hz2
    generalize rd_T32 l0 (i : Int) = x at *
    generalize rd_T32 l1 (i : Int) = y at *
    obtain ⟨x0, x1, x2, x3, x4, ⟨x5, x6⟩⟩ := x
    obtain ⟨y0, y1, y2, y3, y4, ⟨y5, y6⟩⟩ := y
    dsimp only at a0 a1 a2 a3 a4 a5 a6 l5 g5 e0_ e1_ e2_ e3_ e4_ e5 e6_ m5 k5
    rw [Int.toNat_natCast] at a0 a1 a2 a3 a4 a5 a6 e0_ e1_ e2_ e3_ e4_ e5 e6_
    obtain ⟨u5, hu5⟩ : ∃ u, x5.length = u := ⟨_, rfl⟩
    obtain ⟨v5, hv5⟩ : ∃ u, y5.length = u := ⟨_, rfl⟩
    obtain ⟨s0, hs0⟩ : ∃ b, (decide (x5 = y5) && x6 == y6) = b := ⟨_, rfl⟩
    have hz3 : ((x0 == y0 && x1 == y1 && x2 == y2 && x3.toList == y3.toList && x4 == y4 && s0) && sameDs (l0.drop (i + 1)) (l1.drop (i + 1))) = z := by rw [← hs0]; exact hz2
    have HS0 : Hid (∀ W, Below wr.heap.size wr W → Calls Tryz.prog 48 #[.agg #[.slice A5 u5 c5, .int .i64 x6], .agg #[.slice B5 v5 d5, .int .i64 y6]] W fun e w' => e = .returned (.bool s0) ∧ Below W.heap.size W w') := Lib.hid (fun W hW => by
     have h := wsame_calls A5 c5 x5 x6 B5 d5 y5 y6 W (Kd.C_below g5 hW) l5 (Kd.C_below k5 hW) m5
     rw [hu5, hv5, hs0] at h
     exact h)
    rw [hu5] at a5
    rw [hv5] at e5
    have HZ2 := Lib.hid hz3
    have hij2 : i ≤ 9223372036854775806 := by omega
    clear hz2 hz3 HZ hs0 hu5 hv5 g5 k5 C0 C1 l5 m5
    have b0 : (ad.add (i * 7)).block < wr.heap.size := World.block_lt_of_cell? wr _ a0
    have b1 : (ae.add (i * 7)).block < wr.heap.size := World.block_lt_of_cell? wr _ e0_
    have p1 : (0 : Int) ≤ (i : Int) := by omega
    have p2 : (i : Int) < (n : Int) := by omega
    go_upto_region 6 with fail
    go_cut [6, 7] (fun v6 v7 wc => ∃ gx gy : Nat, v6 = .pointer (some ⟨gx, 0, none⟩) ∧ v7 = .pointer (some ⟨gy, 0, none⟩) ∧ Hid (wc.heap[gx]? = some (.cells #[.int .i64 x0, .int .i64 x1, .int .i64 x2, .string x3, .bool x4, .slice A5 u5 c5, .int .i64 x6] 32 (0, 0))) ∧ Hid (wc.heap[gy]? = some (.cells #[.int .i64 y0, .int .i64 y1, .int .i64 y2, .string y3, .bool y4, .slice B5 v5 d5, .int .i64 y6] 32 (0, 0))) ∧ Hid (Below wr.heap.size wr wc))
    case first =>
     go_region_held3 (fun w' => w'.cell? (ad.add (i * 7)) = some (.int .i64 x0) ∧ w'.cell? ⟨(ad.add (i * 7)).block, (ad.add (i * 7)).off + 1, none⟩ = some (.int .i64 x1) ∧ w'.cell? ⟨(ad.add (i * 7)).block, (ad.add (i * 7)).off + 2, none⟩ = some (.int .i64 x2) ∧ w'.cell? ⟨(ad.add (i * 7)).block, (ad.add (i * 7)).off + 3, none⟩ = some (.string x3) ∧ w'.cell? ⟨(ad.add (i * 7)).block, (ad.add (i * 7)).off + 4, none⟩ = some (.bool x4) ∧ w'.cell? ⟨(ad.add (i * 7)).block, (ad.add (i * 7)).off + 5, none⟩ = some (.slice A5 u5 c5) ∧ w'.cell? ⟨(ad.add (i * 7)).block, (ad.add (i * 7)).off + 6, none⟩ = some (.int .i64 x6) ∧ w'.cell? (ae.add (i * 7)) = some (.int .i64 y0) ∧ w'.cell? ⟨(ae.add (i * 7)).block, (ae.add (i * 7)).off + 1, none⟩ = some (.int .i64 y1) ∧ w'.cell? ⟨(ae.add (i * 7)).block, (ae.add (i * 7)).off + 2, none⟩ = some (.int .i64 y2) ∧ w'.cell? ⟨(ae.add (i * 7)).block, (ae.add (i * 7)).off + 3, none⟩ = some (.string y3) ∧ w'.cell? ⟨(ae.add (i * 7)).block, (ae.add (i * 7)).off + 4, none⟩ = some (.bool y4) ∧ w'.cell? ⟨(ae.add (i * 7)).block, (ae.add (i * 7)).off + 5, none⟩ = some (.slice B5 v5 d5) ∧ w'.cell? ⟨(ae.add (i * 7)).block, (ae.add (i * 7)).off + 6, none⟩ = some (.int .i64 y6)) (go_keep) (fail)
     ·go_wp2
      go_meet
      case rel => exact ⟨_, _, rfl, rfl, Lib.hid (two_blocks wr (.cells #[.int .i64 x0, .int .i64 x1, .int .i64 x2, .string x3, .bool x4, .slice A5 u5 c5, .int .i64 x6] 32) (.cells #[.int .i64 y0, .int .i64 y1, .int .i64 y2, .string y3, .bool y4, .slice B5 v5 d5, .int .i64 y6] 32)).1, Lib.hid (two_blocks wr (.cells #[.int .i64 x0, .int .i64 x1, .int .i64 x2, .string x3, .bool x4, .slice A5 u5 c5, .int .i64 x6] 32) (.cells #[.int .i64 y0, .int .i64 y1, .int .i64 y2, .string y3, .bool y4, .slice B5 v5 d5, .int .i64 y6] 32)).2.1, Lib.hid (two_blocks wr (.cells #[.int .i64 x0, .int .i64 x1, .int .i64 x2, .string x3, .bool x4, .slice A5 u5 c5, .int .i64 x6] 32) (.cells #[.int .i64 y0, .int .i64 y1, .int .i64 y2, .string y3, .bool y4, .slice B5 v5 d5, .int .i64 y6] 32)).2.2.drew⟩
     ·go_wp2
      go_meet
      case rel => exact ⟨_, _, rfl, rfl, Lib.hid (two_blocks wr (.cells #[.int .i64 y0, .int .i64 y1, .int .i64 y2, .string y3, .bool y4, .slice B5 v5 d5, .int .i64 y6] 32) (.cells #[.int .i64 x0, .int .i64 x1, .int .i64 x2, .string x3, .bool x4, .slice A5 u5 c5, .int .i64 x6] 32)).2.1, Lib.hid (two_blocks wr (.cells #[.int .i64 y0, .int .i64 y1, .int .i64 y2, .string y3, .bool y4, .slice B5 v5 d5, .int .i64 y6] 32) (.cells #[.int .i64 x0, .int .i64 x1, .int .i64 x2, .string x3, .bool x4, .slice A5 u5 c5, .int .i64 x6] 32)).1, Lib.hid (two_blocks wr (.cells #[.int .i64 y0, .int .i64 y1, .int .i64 y2, .string y3, .bool y4, .slice B5 v5 d5, .int .i64 y6] 32) (.cells #[.int .i64 x0, .int .i64 x1, .int .i64 x2, .string x3, .bool x4, .slice A5 u5 c5, .int .i64 x6] 32)).2.2.drew⟩
    case rest =>
     clear a0 a1 a2 a3 a4 a5 a6 e0_ e1_ e2_ e3_ e4_ e5 e6_ b0 b1 p1 p2
     obtain ⟨gx, gy, rfl, rfl, N0, N1, HBc⟩ := hcut
     have HD := Lib.hid (HB.out.trans (HBc.out.mono HB.out.size))
     have n0 := (blk_cell N0.out 0).trans rfl
     have m0 := (blk_cell N1.out 0).trans rfl
     have n1 := (blk_cell N0.out 1).trans rfl
     have m1 := (blk_cell N1.out 1).trans rfl
     have n2 := (blk_cell N0.out 2).trans rfl
     have m2 := (blk_cell N1.out 2).trans rfl
     have n3 := (blk_cell N0.out 3).trans rfl
     have m3 := (blk_cell N1.out 3).trans rfl
     have n4 := (blk_cell N0.out 4).trans rfl
     have m4 := (blk_cell N1.out 4).trans rfl
     have n5 := (blk_cell N0.out 5).trans rfl
     have m5 := (blk_cell N1.out 5).trans rfl
     have n6 := (blk_cell N0.out 6).trans rfl
     have m6 := (blk_cell N1.out 6).trans rfl
     cases hq0 : (x0 == y0) with
     | false =>
      have d0 : (x0 != y0) = true := by rw [bne, hq0]; rfl
      have HZ3 : Hid (false = z) := Lib.hid (by rw [← HZ2.out, hq0]; simp)
      clear HZ2
      go_wp2
      go_ret
      exact ⟨congrArg (fun b => Ending.returned (Value.bool b)) HZ3.out, HD.out⟩
     | true =>
     have d0 : (x0 != y0) = false := by rw [bne, hq0]; rfl
     cases hq1 : (x1 == y1) with
     | false =>
      have d1 : (x1 != y1) = true := by rw [bne, hq1]; rfl
      have HZ3 : Hid (false = z) := Lib.hid (by rw [← HZ2.out, hq0, hq1]; simp)
      clear HZ2
      go_wp2
      go_ret
      exact ⟨congrArg (fun b => Ending.returned (Value.bool b)) HZ3.out, HD.out⟩
     | true =>
     have d1 : (x1 != y1) = false := by rw [bne, hq1]; rfl
     cases hq2 : (x2 == y2) with
     | false =>
      have d2 : (x2 != y2) = true := by rw [bne, hq2]; rfl
      have HZ3 : Hid (false = z) := Lib.hid (by rw [← HZ2.out, hq0, hq1, hq2]; simp)
      clear HZ2
      go_wp2
      go_ret
      exact ⟨congrArg (fun b => Ending.returned (Value.bool b)) HZ3.out, HD.out⟩
     | true =>
     have d2 : (x2 != y2) = false := by rw [bne, hq2]; rfl
     cases hq3 : (x3.toList == y3.toList) with
     | false =>
      have d3 : (x3.toList != y3.toList) = true := by rw [bne, hq3]; rfl
      have HZ3 : Hid (false = z) := Lib.hid (by rw [← HZ2.out, hq0, hq1, hq2, hq3]; simp)
      clear HZ2
      go_wp2
      go_ret
      exact ⟨congrArg (fun b => Ending.returned (Value.bool b)) HZ3.out, HD.out⟩
     | true =>
     have d3 : (x3.toList != y3.toList) = false := by rw [bne, hq3]; rfl
     cases hq4 : (x4 == y4) with
     | false =>
      have d4 : (x4 != y4) = true := by rw [bne, hq4]; rfl
      have HZ3 : Hid (false = z) := Lib.hid (by rw [← HZ2.out, hq0, hq1, hq2, hq3, hq4]; simp)
      clear HZ2
      go_wp2
      go_ret
      exact ⟨congrArg (fun b => Ending.returned (Value.bool b)) HZ3.out, HD.out⟩
     | true =>
     have d4 : (x4 != y4) = false := by rw [bne, hq4]; rfl
     have HZ3 : Hid ((s0 && sameDs (l0.drop (i + 1)) (l1.drop (i + 1))) = z) := Lib.hid (by rw [← HZ2.out, hq0, hq1, hq2, hq3, hq4]; simp)
     clear HZ2
     have HSW := Lib.hid (HS0.out wc HBc.out)
     cases s0 with
     | false =>
      have HZ4 : Hid (false = z) := Lib.hid (by rw [← HZ3.out]; simp)
      clear HZ3
      go_wp2_with (go_at_call 48; refine HSW.out.mono ?_)
      rintro e w3 ⟨rfl, hb⟩
      have HD3 := Lib.hid (HD.out.trans (hb.mono HD.out.size))
      clear hb
      try dsimp only
      go_wp2
      go_ret
      exact ⟨congrArg (fun b => Ending.returned (Value.bool b)) HZ4.out, HD3.out⟩
     | true =>
     have HZ5 : Hid (sameDs (l0.drop (i + 1)) (l1.drop (i + 1)) = z) := Lib.hid (by rw [← HZ3.out]; simp)
     clear HZ3
     go_wp2_with (go_at_call 48; refine HSW.out.mono ?_)
     rintro e w4 ⟨rfl, hb⟩
     have HD4 := Lib.hid (HD.out.trans (hb.mono HD.out.size))
     clear hb
     try dsimp only
     go_wp2
     go_roundg (n - (i + 1))
     case measure => omega
     case rel => exact ⟨i + 1, by go_num, by omega, HZ5, HD4⟩
def caesuraref27_Same.f (l0 l1 : List S32) : Option Bool := some (sameDs l0 l1)
theorem caesuraref27_Same.calls (A0 : Option Addr) (c0 : Nat) (l0 : List S32) (A1 : Option Addr) (c1 : Nat) (l1 : List S32) (r : Bool) (w : World) (hr0 : Kd.C k32 w A0 l0.length l0) (_hc0 : l0.length ≤ c0) (hr1 : Kd.C k32 w A1 l1.length l1) (_hc1 : l1.length ≤ c1) (h : caesuraref27_Same.f l0 l1 = some r) :
  Calls Tryz.prog 23 #[.slice A0 l0.length c0, .slice A1 l1.length c1] w fun e w' => e = .returned (.bool r) ∧ Below w.heap.size w w' := by
 unfold caesuraref27_Same.f at h
 cases h
 exact same_calls l0 l1 A0 c0 A1 c1 w hr0 hr1
end Go.Proofs.YtlenlhnpmblicaaGreatDoor.XA
end
section
set_option linter.unusedVariables false
set_option linter.unusedSimpArgs false
namespace Go.Proofs.YtlenlhnpmblicaaGreatDoor.XA
set_option linter.unusedSimpArgs false
theorem less_turn : ∀ a b : List UInt8, Op.bytesLess b a = !(Op.bytesLess a b || a == b)
 | [], [] => by simp [Op.bytesLess]
 | [], y :: b => by simp [Op.bytesLess]
 | x :: a, [] => by simp [Op.bytesLess]
 | x :: a, y :: b => by
  have ih := less_turn a b
  simp only [Op.bytesLess]
  by_cases h1 : x < y
  ·have h2 : ¬ y < x := by have := UInt8.lt_iff_toNat_lt.1 h1; intro h; have := UInt8.lt_iff_toNat_lt.1 h; omega
   have h3 : ¬ x = y := by intro e; subst e; exact h2 h1
   have h4 : ¬ y = x := fun e => h3 e.symm
   simp [h1, h2, h3, h4]
  ·by_cases h2 : y < x
   ·have h3 : ¬ x = y := by intro e; subst e; exact h1 h2
    have h4 : ¬ y = x := fun e => h3 e.symm
    simp [h1, h2, h3, h4]
   ·have h3 : x = y := by
     apply UInt8.toNat_inj.1
     have h5 : ¬ x.toNat < y.toNat := fun h => h1 (UInt8.lt_iff_toNat_lt.2 h)
     have h6 : ¬ y.toNat < x.toNat := fun h => h2 (UInt8.lt_iff_toNat_lt.2 h)
     omega
    subst h3
    simp [h1, ih]
theorem gtr_str (t : TypeId) (a b : ByteArray) : binOp .gtr t (.string a) (.string b) = pure (.bool (Op.bytesLess b.toList a.toList)) := by
 rw [less_turn]
 simp [binOp, Op.stringOp]
end Go.Proofs.YtlenlhnpmblicaaGreatDoor.XA
end
section
set_option linter.unusedVariables false
set_option linter.unusedSimpArgs false
namespace Go.Proofs.YtlenlhnpmblicaaGreatDoor.XA
open Go.RowKit Go.Proofs.YtlenlhnpmblicaaGreatDoorW.PrintWords Go.Proofs.YtlenlhnpmblicaaGreatDoorW.PrintLast Go.Proofs.YtlenlhnpmblicaaGreatDoorW.PrintMore
attribute [local go_sem] max2_int min2_int max_two min_two max_three min_three max_four min_four   -- for this text's walks alone
set_option linter.unusedVariables false
set_option linter.unusedSimpArgs false
def cmp_Or_int.l0 : Nat → Int → List Int → Int → Int → Option (Int)
 | 0, _, _, _, _ => none
 | k + 1, x3, x6, x7, x8 => if x8 < x7 then (if 0 ≤ x8 then (if x8 < (x6.length : Int) then (if (rd x6 x8) = x3 then (cmp_Or_int.l0 k x3 x6 x7 (wrap64 (x8 + 1))) else (some (rd x6 x8))) else (none)) else (none)) else (some x3)
def cmp_Or_int.f (k : Nat) (l0 : List Int) : Option (Int) := cmp_Or_int.l0 k 0 l0 (l0.length : Int) 0
theorem cmp_Or_int.mono_l : ∀ k, (∀ y0 y1 y2 y3, LeO (cmp_Or_int.l0 k y0 y1 y2 y3) (cmp_Or_int.l0 (k + 1) y0 y1 y2 y3))
 | 0 => fun _ _ _ _ r h => by simp [cmp_Or_int.l0] at h
 | k + 1 => by
  have ih0 := cmp_Or_int.mono_l k
  ·intro y0 y1 y2 y3
   unfold cmp_Or_int.l0
   repeat' first
   | (with_reducible exact ih0 _ _ _ _)
   | (with_reducible exact LeO.refl _)
   | (with_reducible exact LeO.none _)
   | (with_reducible refine LeO.ite ?_ ?_)
   | (with_reducible refine LeO.bind ?_ (fun _ => ?_))
   | exact ih0 _ _ _ _
   | exact LeO.none _
   | refine LeO.ite ?_ ?_
   | refine LeO.bind ?_ (fun _ => ?_)
theorem cmp_Or_int.mono : ∀ a0 k, LeO (cmp_Or_int.f k a0) (cmp_Or_int.f (k + 1) a0) := by
 intro a0 k
 have ih0 := cmp_Or_int.mono_l k
 unfold cmp_Or_int.f
 repeat' first
   | (with_reducible exact ih0 _ _ _ _)
   | (with_reducible exact LeO.refl _)
   | (with_reducible exact LeO.none _)
   | (with_reducible refine LeO.ite ?_ ?_)
   | (with_reducible refine LeO.bind ?_ (fun _ => ?_))
   | exact ih0 _ _ _ _
   | exact LeO.none _
   | refine LeO.ite ?_ ?_
   | refine LeO.bind ?_ (fun _ => ?_)
set_option maxHeartbeats 8000000 in
set_option maxRecDepth 100000 in
theorem cmp_Or_int.calls (k : Nat) (A0 : Option Addr) (c0 : Nat) (l0 : List Int) (r : Int) (w : World) (hr0 : Kd.C (Kd.int .i64) w A0 l0.length l0) (hc0 : l0.length ≤ c0) (h : cmp_Or_int.f k l0 = some r) :
  Calls Tryz.prog 83 #[.slice A0 l0.length c0] w fun e w' => e = .returned (.int .i64 r) ∧ Drawn0 w w' := by
 have HR0 := Aside0.mk hr0
 have HC0 := Aside0.mk hc0
 clear hr0 hc0
 have H : (cmp_Or_int.l0 k 0 l0 (l0.length : Int) 0) = some r := h
 clear h
 have H' := Aside0.mk H
 clear H
 go_enter Tryz.func83, Tryz.ntmps83
 go_wp2
 go_loopg [8] k (fun kq v8 w' => ∃ (x8_1 : Int), v8 = .int .i64 x8_1 ∧ Aside0 (cmp_Or_int.l0 kq 0 l0 (l0.length : Int) x8_1 = some r) ∧ Aside0 (kq ≤ k) ∧ Drawn0 w w')
 case atStart => exact ⟨(0), (by first | rfl | (simp; done) | (simp [*]; done)), H', ⟨Nat.le_refl _⟩, by repeat (first | exact Drawn0.refl _ | apply Drawn0.step)⟩
 case round =>
  clear H'
  obtain ⟨x8_1, rfl, HA, HK1, ⟨m1, rfl⟩⟩ := hrel
  cases gk with
  | zero => exact absurd HA.out (by simp [cmp_Or_int.l0])
  | succ k1 =>
   have H := HA.out
   clear HA
   simp only [cmp_Or_int.l0] at H
   by_cases c2 : x8_1 < (l0.length : Int)
   ·rw [if_pos c2] at H
    have c2b0 : decide (x8_1 < (l0.length : Int)) = true := decide_eq_true c2
    clear c2
    by_cases c3 : 0 ≤ x8_1
    ·rw [if_pos c3] at H
     have c3b0 : decide (0 ≤ x8_1) = true := decide_eq_true c3
     clear c3
     by_cases c4 : x8_1 < (l0.length : Int)
     ·rw [if_pos c4] at H
      have c4b0 : decide (x8_1 < (l0.length : Int)) = true := decide_eq_true c4
      clear c4
      by_cases c5 : (rd l0 x8_1) = 0
      ·rw [if_pos c5] at H
       have c5b0 : ((rd l0 x8_1) == 0) = true := beq_iff_eq.mpr c5
       have c5b1 : ((rd l0 x8_1) != 0) = false := bne_eq_false_iff_eq.mpr c5
       clear c5
       have H' := Aside0.mk H
       clear H
       have p164 : 0 ≤ (x8_1 : Int) := of_decide_eq_true (by first | (with_reducible assumption) | assumption)
       have q164 : x8_1 < (l0.length : Int) := of_decide_eq_true (by first | (with_reducible assumption) | assumption)
       obtain ⟨ad164, e164, hx164_0⟩ := Kd.at_int HR0.out x8_1 p164 q164
       cases e164
       replace p164 := eq_true p164
       replace q164 := eq_true q164
       go_wp2
       go_roundg k1
       case measure => have := HK1.out; omega
       case rel => exact ⟨(wrap64 (x8_1 + 1)), (by first | rfl | (simp; done) | (simp [*]; done)), H', ⟨by have := HK1.out; omega⟩, by repeat (first | exact Drawn0.refl _ | apply Drawn0.step)⟩
      ·rw [if_neg c5] at H
       have c5b0 : ((rd l0 x8_1) == 0) = false := beq_eq_false_iff_ne.mpr c5
       have c5b1 : ((rd l0 x8_1) != 0) = true := bne_iff_ne.mpr c5
       obtain rfl := Option.some.inj H
       have p164 : 0 ≤ (x8_1 : Int) := of_decide_eq_true (by first | (with_reducible assumption) | assumption)
       have q164 : x8_1 < (l0.length : Int) := of_decide_eq_true (by first | (with_reducible assumption) | assumption)
       obtain ⟨ad164, e164, hx164_0⟩ := Kd.at_int HR0.out x8_1 p164 q164
       cases e164
       replace p164 := eq_true p164
       replace q164 := eq_true q164
       go_wp2
       go_ret
       exact ⟨by first | rfl | (simp; done) | (simp [*]; done), by repeat (first | exact Drawn0.refl _ | apply Drawn0.step)⟩
     ·rw [if_neg c4] at H
      exact absurd H (by simp)
    ·rw [if_neg c3] at H
     exact absurd H (by simp)
   ·rw [if_neg c2] at H
    have c2b0 : decide (x8_1 < (l0.length : Int)) = false := decide_eq_false c2
    clear c2
    obtain rfl := Option.some.inj H
    go_wp2
    go_ret
    exact ⟨by first | rfl | (simp; done) | (simp [*]; done), by repeat (first | exact Drawn0.refl _ | apply Drawn0.step)⟩
def cmp_isNaN_int.f (a0 : Int) : Option (Bool) := some (a0 != a0)
set_option maxHeartbeats 8000000 in
set_option maxRecDepth 100000 in
theorem cmp_isNaN_int.calls (a0 : Int) (r : Bool) (w : World) (h : cmp_isNaN_int.f a0 = some r) :
  Calls Tryz.prog 106 #[.int .i64 a0] w fun e w' => e = .returned (.bool r) ∧ Drawn0 w w' := by
 have H : (some (a0 != a0)) = some r := h
 clear h
 obtain rfl := Option.some.inj H
 go_enter Tryz.func106, Tryz.ntmps106
 go_wp2
 go_ret
 exact ⟨by first | rfl | (simp; done) | (simp [*]; done), by repeat (first | exact Drawn0.refl _ | apply Drawn0.step)⟩
def cmp_Compare_int.f (a0 : Int) (a1 : Int) : Option (Int) := (cmp_isNaN_int.f a0).bind fun t165 => ((cmp_isNaN_int.f a1).bind fun t166 => (if t165 = true then (if t166 = true then (some 0) else (some (-1))) else (if t166 = true then (some 1) else (if a0 < a1 then (some (-1)) else (if a0 > a1 then (some 1) else (some 0))))))
set_option maxHeartbeats 8000000 in
set_option maxRecDepth 100000 in
theorem cmp_Compare_int.calls (a0 : Int) (a1 : Int) (r : Int) (w : World) (h : cmp_Compare_int.f a0 a1 = some r) :
  Calls Tryz.prog 84 #[.int .i64 a0, .int .i64 a1] w fun e w' => e = .returned (.int .i64 r) ∧ Drawn0 w w' := by
 have H : ((cmp_isNaN_int.f a0).bind fun t165 => ((cmp_isNaN_int.f a1).bind fun t166 => (if t165 = true then (if t166 = true then (some 0) else (some (-1))) else (if t166 = true then (some 1) else (if a0 < a1 then (some (-1)) else (if a0 > a1 then (some 1) else (some 0))))))) = some r := h
 clear h
 replace H := Option.bind_eq_some_iff.mp H
 obtain ⟨t165, A30, H⟩ := H
 replace H : ((cmp_isNaN_int.f a1).bind fun t166 => (if t165 = true then (if t166 = true then (some 0) else (some (-1))) else (if t166 = true then (some 1) else (if a0 < a1 then (some (-1)) else (if a0 > a1 then (some 1) else (some 0)))))) = some r := H
 have A3 := Aside0.mk A30
 clear A30
 replace H := Option.bind_eq_some_iff.mp H
 obtain ⟨t166, A40, H⟩ := H
 replace H : (if t165 = true then (if t166 = true then (some 0) else (some (-1))) else (if t166 = true then (some 1) else (if a0 < a1 then (some (-1)) else (if a0 > a1 then (some 1) else (some 0))))) = some r := H
 have A4 := Aside0.mk A40
 clear A40
 by_cases c5 : t165 = true
 ·subst c5
  have H1 : (if t166 = true then (some 0) else (some (-1))) = some r := by rw [if_pos rfl] at H; exact H
  clear H
  have H := H1
  clear H1
  by_cases c6 : t166 = true
  ·subst c6
   have H1 : (some 0) = some r := by rw [if_pos rfl] at H; exact H
   clear H
   have H := H1
   clear H1
   obtain rfl := Option.some.inj H
   go_enter Tryz.func84, Tryz.ntmps84
   go_wp2_with (first | ((with_reducible refine gate_callee (f := 106) rfl ?_); refine goesL_ (some 8) rfl rfl Tryz.func106 (by kernel_rfl) rfl #[.int .i64 a0] rfl (by (try simp only [List.map_toArray, List.map_cons, List.map_nil]); first | done | rfl | (simp only [List.length_drop, List.length_take]; rfl)) ?_; (with_reducible refine (cmp_isNaN_int.calls a0 true _ A3.out).mono ?_); rintro e w' ⟨rfl, ⟨nd, rfl⟩⟩; refine ⟨_, rfl, ?_⟩) | ((with_reducible refine gate_callee (f := 106) rfl ?_); refine goesL_ (some 10) rfl rfl Tryz.func106 (by kernel_rfl) rfl #[.int .i64 a1] rfl (by (try simp only [List.map_toArray, List.map_cons, List.map_nil]); first | done | rfl | (simp only [List.length_drop, List.length_take]; rfl)) ?_; (with_reducible refine (cmp_isNaN_int.calls a1 true _ A4.out).mono ?_); rintro e w' ⟨rfl, ⟨nd, rfl⟩⟩; refine ⟨_, rfl, ?_⟩))
   go_ret
   exact ⟨by first | rfl | (simp; done) | (simp [*]; done), by repeat (first | exact Drawn0.refl _ | apply Drawn0.step)⟩
  ·replace c6 := Bool.eq_false_iff.mpr c6
   subst c6
   have H1 : (some (-1)) = some r := by rw [if_neg (show ¬ (false = true) by decide)] at H; exact H
   clear H
   have H := H1
   clear H1
   obtain rfl := Option.some.inj H
   go_enter Tryz.func84, Tryz.ntmps84
   go_wp2_with (first | ((with_reducible refine gate_callee (f := 106) rfl ?_); refine goesL_ (some 8) rfl rfl Tryz.func106 (by kernel_rfl) rfl #[.int .i64 a0] rfl (by (try simp only [List.map_toArray, List.map_cons, List.map_nil]); first | done | rfl | (simp only [List.length_drop, List.length_take]; rfl)) ?_; (with_reducible refine (cmp_isNaN_int.calls a0 true _ A3.out).mono ?_); rintro e w' ⟨rfl, ⟨nd, rfl⟩⟩; refine ⟨_, rfl, ?_⟩) | ((with_reducible refine gate_callee (f := 106) rfl ?_); refine goesL_ (some 10) rfl rfl Tryz.func106 (by kernel_rfl) rfl #[.int .i64 a1] rfl (by (try simp only [List.map_toArray, List.map_cons, List.map_nil]); first | done | rfl | (simp only [List.length_drop, List.length_take]; rfl)) ?_; (with_reducible refine (cmp_isNaN_int.calls a1 false _ A4.out).mono ?_); rintro e w' ⟨rfl, ⟨nd, rfl⟩⟩; refine ⟨_, rfl, ?_⟩))
   go_ret
   exact ⟨by first | rfl | (simp; done) | (simp [*]; done), by repeat (first | exact Drawn0.refl _ | apply Drawn0.step)⟩
 ·replace c5 := Bool.eq_false_iff.mpr c5
  subst c5
  have H1 : (if t166 = true then (some 1) else (if a0 < a1 then (some (-1)) else (if a0 > a1 then (some 1) else (some 0)))) = some r := by rw [if_neg (show ¬ (false = true) by decide)] at H; exact H
  clear H
  have H := H1
  clear H1
  by_cases c7 : t166 = true
  ·subst c7
   have H1 : (some 1) = some r := by rw [if_pos rfl] at H; exact H
   clear H
   have H := H1
   clear H1
   obtain rfl := Option.some.inj H
   go_enter Tryz.func84, Tryz.ntmps84
   go_wp2_with (first | ((with_reducible refine gate_callee (f := 106) rfl ?_); refine goesL_ (some 8) rfl rfl Tryz.func106 (by kernel_rfl) rfl #[.int .i64 a0] rfl (by (try simp only [List.map_toArray, List.map_cons, List.map_nil]); first | done | rfl | (simp only [List.length_drop, List.length_take]; rfl)) ?_; (with_reducible refine (cmp_isNaN_int.calls a0 false _ A3.out).mono ?_); rintro e w' ⟨rfl, ⟨nd, rfl⟩⟩; refine ⟨_, rfl, ?_⟩) | ((with_reducible refine gate_callee (f := 106) rfl ?_); refine goesL_ (some 10) rfl rfl Tryz.func106 (by kernel_rfl) rfl #[.int .i64 a1] rfl (by (try simp only [List.map_toArray, List.map_cons, List.map_nil]); first | done | rfl | (simp only [List.length_drop, List.length_take]; rfl)) ?_; (with_reducible refine (cmp_isNaN_int.calls a1 true _ A4.out).mono ?_); rintro e w' ⟨rfl, ⟨nd, rfl⟩⟩; refine ⟨_, rfl, ?_⟩))
   go_ret
   exact ⟨by first | rfl | (simp; done) | (simp [*]; done), by repeat (first | exact Drawn0.refl _ | apply Drawn0.step)⟩
  ·replace c7 := Bool.eq_false_iff.mpr c7
   subst c7
   have H1 : (if a0 < a1 then (some (-1)) else (if a0 > a1 then (some 1) else (some 0))) = some r := by rw [if_neg (show ¬ (false = true) by decide)] at H; exact H
   clear H
   have H := H1
   clear H1
   by_cases c8 : a0 < a1
   ·rw [if_pos c8] at H
    have c8b0 : decide (a0 < a1) = true := decide_eq_true c8
    clear c8
    obtain rfl := Option.some.inj H
    go_enter Tryz.func84, Tryz.ntmps84
    go_wp2_with (first | ((with_reducible refine gate_callee (f := 106) rfl ?_); refine goesL_ (some 8) rfl rfl Tryz.func106 (by kernel_rfl) rfl #[.int .i64 a0] rfl (by (try simp only [List.map_toArray, List.map_cons, List.map_nil]); first | done | rfl | (simp only [List.length_drop, List.length_take]; rfl)) ?_; (with_reducible refine (cmp_isNaN_int.calls a0 false _ A3.out).mono ?_); rintro e w' ⟨rfl, ⟨nd, rfl⟩⟩; refine ⟨_, rfl, ?_⟩) | ((with_reducible refine gate_callee (f := 106) rfl ?_); refine goesL_ (some 10) rfl rfl Tryz.func106 (by kernel_rfl) rfl #[.int .i64 a1] rfl (by (try simp only [List.map_toArray, List.map_cons, List.map_nil]); first | done | rfl | (simp only [List.length_drop, List.length_take]; rfl)) ?_; (with_reducible refine (cmp_isNaN_int.calls a1 false _ A4.out).mono ?_); rintro e w' ⟨rfl, ⟨nd, rfl⟩⟩; refine ⟨_, rfl, ?_⟩))
    go_ret
    exact ⟨by first | rfl | (simp; done) | (simp [*]; done), by repeat (first | exact Drawn0.refl _ | apply Drawn0.step)⟩
   ·rw [if_neg c8] at H
    have c8b0 : decide (a0 < a1) = false := decide_eq_false c8
    clear c8
    by_cases c9 : a0 > a1
    ·rw [if_pos c9] at H
     have c9b0 : decide (a1 < a0) = true := decide_eq_true c9
     clear c9
     obtain rfl := Option.some.inj H
     go_enter Tryz.func84, Tryz.ntmps84
     go_wp2_with (first | ((with_reducible refine gate_callee (f := 106) rfl ?_); refine goesL_ (some 8) rfl rfl Tryz.func106 (by kernel_rfl) rfl #[.int .i64 a0] rfl (by (try simp only [List.map_toArray, List.map_cons, List.map_nil]); first | done | rfl | (simp only [List.length_drop, List.length_take]; rfl)) ?_; (with_reducible refine (cmp_isNaN_int.calls a0 false _ A3.out).mono ?_); rintro e w' ⟨rfl, ⟨nd, rfl⟩⟩; refine ⟨_, rfl, ?_⟩) | ((with_reducible refine gate_callee (f := 106) rfl ?_); refine goesL_ (some 10) rfl rfl Tryz.func106 (by kernel_rfl) rfl #[.int .i64 a1] rfl (by (try simp only [List.map_toArray, List.map_cons, List.map_nil]); first | done | rfl | (simp only [List.length_drop, List.length_take]; rfl)) ?_; (with_reducible refine (cmp_isNaN_int.calls a1 false _ A4.out).mono ?_); rintro e w' ⟨rfl, ⟨nd, rfl⟩⟩; refine ⟨_, rfl, ?_⟩))
     go_ret
     exact ⟨by first | rfl | (simp; done) | (simp [*]; done), by repeat (first | exact Drawn0.refl _ | apply Drawn0.step)⟩
    ·rw [if_neg c9] at H
     have c9b0 : decide (a1 < a0) = false := decide_eq_false c9
     clear c9
     obtain rfl := Option.some.inj H
     go_enter Tryz.func84, Tryz.ntmps84
     go_wp2_with (first | ((with_reducible refine gate_callee (f := 106) rfl ?_); refine goesL_ (some 8) rfl rfl Tryz.func106 (by kernel_rfl) rfl #[.int .i64 a0] rfl (by (try simp only [List.map_toArray, List.map_cons, List.map_nil]); first | done | rfl | (simp only [List.length_drop, List.length_take]; rfl)) ?_; (with_reducible refine (cmp_isNaN_int.calls a0 false _ A3.out).mono ?_); rintro e w' ⟨rfl, ⟨nd, rfl⟩⟩; refine ⟨_, rfl, ?_⟩) | ((with_reducible refine gate_callee (f := 106) rfl ?_); refine goesL_ (some 10) rfl rfl Tryz.func106 (by kernel_rfl) rfl #[.int .i64 a1] rfl (by (try simp only [List.map_toArray, List.map_cons, List.map_nil]); first | done | rfl | (simp only [List.length_drop, List.length_take]; rfl)) ?_; (with_reducible refine (cmp_isNaN_int.calls a1 false _ A4.out).mono ?_); rintro e w' ⟨rfl, ⟨nd, rfl⟩⟩; refine ⟨_, rfl, ?_⟩))
     go_ret
     exact ⟨by first | rfl | (simp; done) | (simp [*]; done), by repeat (first | exact Drawn0.refl _ | apply Drawn0.step)⟩
def cmp_isNaN_string.f (a0 : ByteArray) : Option (Bool) := some (a0.toList != a0.toList)
set_option maxHeartbeats 8000000 in
set_option maxRecDepth 100000 in
theorem cmp_isNaN_string.calls (a0 : ByteArray) (r : Bool) (w : World) (h : cmp_isNaN_string.f a0 = some r) :
  Calls Tryz.prog 107 #[.string a0] w fun e w' => e = .returned (.bool r) ∧ Drawn0 w w' := by
 have H : (some (a0.toList != a0.toList)) = some r := h
 clear h
 obtain rfl := Option.some.inj H
 go_enter Tryz.func107, Tryz.ntmps107
 go_wp2
 go_ret
 exact ⟨by first | rfl | (simp; done) | (simp [*]; done), by repeat (first | exact Drawn0.refl _ | apply Drawn0.step)⟩
def cmp_Compare_string.f (a0 : ByteArray) (a1 : ByteArray) : Option (Int) := (cmp_isNaN_string.f a0).bind fun t167 => ((cmp_isNaN_string.f a1).bind fun t168 => (if t167 = true then (if t168 = true then (some 0) else (some (-1))) else (if t168 = true then (some 1) else (if (Op.bytesLess a0.toList a1.toList) = true then (some (-1)) else (if (Op.bytesLess a1.toList a0.toList) = true then (some 1) else (some 0))))))
set_option maxHeartbeats 8000000 in
set_option maxRecDepth 100000 in
theorem cmp_Compare_string.mono : True := trivial
attribute [local go_sem] gtr_str
set_option maxHeartbeats 8000000 in
set_option maxRecDepth 100000 in
theorem cmp_Compare_string.calls (a0 : ByteArray) (a1 : ByteArray) (r : Int) (w : World) (h : cmp_Compare_string.f a0 a1 = some r) :
  Calls Tryz.prog 85 #[.string a0, .string a1] w fun e w' => e = .returned (.int .i64 r) ∧ Drawn0 w w' := by
 have H : ((cmp_isNaN_string.f a0).bind fun t167 => ((cmp_isNaN_string.f a1).bind fun t168 => (if t167 = true then (if t168 = true then (some 0) else (some (-1))) else (if t168 = true then (some 1) else (if (Op.bytesLess a0.toList a1.toList) = true then (some (-1)) else (if (Op.bytesLess a1.toList a0.toList) = true then (some 1) else (some 0))))))) = some r := h
 clear h
 replace H := Option.bind_eq_some_iff.mp H
 obtain ⟨t167, A30, H⟩ := H
 replace H : ((cmp_isNaN_string.f a1).bind fun t168 => (if t167 = true then (if t168 = true then (some 0) else (some (-1))) else (if t168 = true then (some 1) else (if (Op.bytesLess a0.toList a1.toList) = true then (some (-1)) else (if (Op.bytesLess a1.toList a0.toList) = true then (some 1) else (some 0)))))) = some r := H
 have A3 := Aside0.mk A30
 clear A30
 replace H := Option.bind_eq_some_iff.mp H
 obtain ⟨t168, A40, H⟩ := H
 replace H : (if t167 = true then (if t168 = true then (some 0) else (some (-1))) else (if t168 = true then (some 1) else (if (Op.bytesLess a0.toList a1.toList) = true then (some (-1)) else (if (Op.bytesLess a1.toList a0.toList) = true then (some 1) else (some 0))))) = some r := H
 have A4 := Aside0.mk A40
 clear A40
 by_cases c5 : t167 = true
 ·subst c5
  have H1 : (if t168 = true then (some 0) else (some (-1))) = some r := by rw [if_pos rfl] at H; exact H
  clear H
  have H := H1
  clear H1
  by_cases c6 : t168 = true
  ·subst c6
   have H1 : (some 0) = some r := by rw [if_pos rfl] at H; exact H
   clear H
   have H := H1
   clear H1
   obtain rfl := Option.some.inj H
   go_enter Tryz.func85, Tryz.ntmps85
   go_wp2_with (first | ((with_reducible refine gate_callee (f := 107) rfl ?_); refine goesL_ (some 8) rfl rfl Tryz.func107 (by kernel_rfl) rfl #[.string a0] rfl (by (try simp only [List.map_toArray, List.map_cons, List.map_nil]); first | done | rfl | (simp only [List.length_drop, List.length_take]; rfl)) ?_; (with_reducible refine (cmp_isNaN_string.calls a0 true _ A3.out).mono ?_); rintro e w' ⟨rfl, ⟨nd, rfl⟩⟩; refine ⟨_, rfl, ?_⟩) | ((with_reducible refine gate_callee (f := 107) rfl ?_); refine goesL_ (some 10) rfl rfl Tryz.func107 (by kernel_rfl) rfl #[.string a1] rfl (by (try simp only [List.map_toArray, List.map_cons, List.map_nil]); first | done | rfl | (simp only [List.length_drop, List.length_take]; rfl)) ?_; (with_reducible refine (cmp_isNaN_string.calls a1 true _ A4.out).mono ?_); rintro e w' ⟨rfl, ⟨nd, rfl⟩⟩; refine ⟨_, rfl, ?_⟩))
   go_ret
   exact ⟨by first | rfl | (simp; done) | (simp [*]; done), by repeat (first | exact Drawn0.refl _ | apply Drawn0.step)⟩
  ·replace c6 := Bool.eq_false_iff.mpr c6
   subst c6
   have H1 : (some (-1)) = some r := by rw [if_neg (show ¬ (false = true) by decide)] at H; exact H
   clear H
   have H := H1
   clear H1
   obtain rfl := Option.some.inj H
   go_enter Tryz.func85, Tryz.ntmps85
   go_wp2_with (first | ((with_reducible refine gate_callee (f := 107) rfl ?_); refine goesL_ (some 8) rfl rfl Tryz.func107 (by kernel_rfl) rfl #[.string a0] rfl (by (try simp only [List.map_toArray, List.map_cons, List.map_nil]); first | done | rfl | (simp only [List.length_drop, List.length_take]; rfl)) ?_; (with_reducible refine (cmp_isNaN_string.calls a0 true _ A3.out).mono ?_); rintro e w' ⟨rfl, ⟨nd, rfl⟩⟩; refine ⟨_, rfl, ?_⟩) | ((with_reducible refine gate_callee (f := 107) rfl ?_); refine goesL_ (some 10) rfl rfl Tryz.func107 (by kernel_rfl) rfl #[.string a1] rfl (by (try simp only [List.map_toArray, List.map_cons, List.map_nil]); first | done | rfl | (simp only [List.length_drop, List.length_take]; rfl)) ?_; (with_reducible refine (cmp_isNaN_string.calls a1 false _ A4.out).mono ?_); rintro e w' ⟨rfl, ⟨nd, rfl⟩⟩; refine ⟨_, rfl, ?_⟩))
   go_ret
   exact ⟨by first | rfl | (simp; done) | (simp [*]; done), by repeat (first | exact Drawn0.refl _ | apply Drawn0.step)⟩
 ·replace c5 := Bool.eq_false_iff.mpr c5
  subst c5
  have H1 : (if t168 = true then (some 1) else (if (Op.bytesLess a0.toList a1.toList) = true then (some (-1)) else (if (Op.bytesLess a1.toList a0.toList) = true then (some 1) else (some 0)))) = some r := by rw [if_neg (show ¬ (false = true) by decide)] at H; exact H
  clear H
  have H := H1
  clear H1
  by_cases c7 : t168 = true
  ·subst c7
   have H1 : (some 1) = some r := by rw [if_pos rfl] at H; exact H
   clear H
   have H := H1
   clear H1
   obtain rfl := Option.some.inj H
   go_enter Tryz.func85, Tryz.ntmps85
   go_wp2_with (first | ((with_reducible refine gate_callee (f := 107) rfl ?_); refine goesL_ (some 8) rfl rfl Tryz.func107 (by kernel_rfl) rfl #[.string a0] rfl (by (try simp only [List.map_toArray, List.map_cons, List.map_nil]); first | done | rfl | (simp only [List.length_drop, List.length_take]; rfl)) ?_; (with_reducible refine (cmp_isNaN_string.calls a0 false _ A3.out).mono ?_); rintro e w' ⟨rfl, ⟨nd, rfl⟩⟩; refine ⟨_, rfl, ?_⟩) | ((with_reducible refine gate_callee (f := 107) rfl ?_); refine goesL_ (some 10) rfl rfl Tryz.func107 (by kernel_rfl) rfl #[.string a1] rfl (by (try simp only [List.map_toArray, List.map_cons, List.map_nil]); first | done | rfl | (simp only [List.length_drop, List.length_take]; rfl)) ?_; (with_reducible refine (cmp_isNaN_string.calls a1 true _ A4.out).mono ?_); rintro e w' ⟨rfl, ⟨nd, rfl⟩⟩; refine ⟨_, rfl, ?_⟩))
   go_ret
   exact ⟨by first | rfl | (simp; done) | (simp [*]; done), by repeat (first | exact Drawn0.refl _ | apply Drawn0.step)⟩
  ·replace c7 := Bool.eq_false_iff.mpr c7
   subst c7
   have H1 : (if (Op.bytesLess a0.toList a1.toList) = true then (some (-1)) else (if (Op.bytesLess a1.toList a0.toList) = true then (some 1) else (some 0))) = some r := by rw [if_neg (show ¬ (false = true) by decide)] at H; exact H
   clear H
   have H := H1
   clear H1
   by_cases c8 : (Op.bytesLess a0.toList a1.toList) = true
   ·rw [if_pos c8] at H
    have c8b0 : (Op.bytesLess a0.toList a1.toList) = true := c8
    clear c8
    obtain rfl := Option.some.inj H
    go_enter Tryz.func85, Tryz.ntmps85
    go_wp2_with (first | ((with_reducible refine gate_callee (f := 107) rfl ?_); refine goesL_ (some 8) rfl rfl Tryz.func107 (by kernel_rfl) rfl #[.string a0] rfl (by (try simp only [List.map_toArray, List.map_cons, List.map_nil]); first | done | rfl | (simp only [List.length_drop, List.length_take]; rfl)) ?_; (with_reducible refine (cmp_isNaN_string.calls a0 false _ A3.out).mono ?_); rintro e w' ⟨rfl, ⟨nd, rfl⟩⟩; refine ⟨_, rfl, ?_⟩) | ((with_reducible refine gate_callee (f := 107) rfl ?_); refine goesL_ (some 10) rfl rfl Tryz.func107 (by kernel_rfl) rfl #[.string a1] rfl (by (try simp only [List.map_toArray, List.map_cons, List.map_nil]); first | done | rfl | (simp only [List.length_drop, List.length_take]; rfl)) ?_; (with_reducible refine (cmp_isNaN_string.calls a1 false _ A4.out).mono ?_); rintro e w' ⟨rfl, ⟨nd, rfl⟩⟩; refine ⟨_, rfl, ?_⟩))
    go_ret
    exact ⟨by first | rfl | (simp; done) | (simp [*]; done), by repeat (first | exact Drawn0.refl _ | apply Drawn0.step)⟩
   ·rw [if_neg c8] at H
    have c8b0 : (Op.bytesLess a0.toList a1.toList) = false := by simpa using c8
    clear c8
    by_cases c9 : (Op.bytesLess a1.toList a0.toList) = true
    ·rw [if_pos c9] at H
     have c9b0 : (Op.bytesLess a1.toList a0.toList) = true := c9
     clear c9; have e9_ : (a0.toList == a1.toList) = !(Op.bytesLess a1.toList a0.toList) := (by have h_ := less_turn a0.toList a1.toList; rw [c8b0] at h_; simpa using congrArg (!·) h_.symm); rw [c9b0] at e9_
     obtain rfl := Option.some.inj H
     go_enter Tryz.func85, Tryz.ntmps85
     go_wp2_with (first | ((with_reducible refine gate_callee (f := 107) rfl ?_); refine goesL_ (some 8) rfl rfl Tryz.func107 (by kernel_rfl) rfl #[.string a0] rfl (by (try simp only [List.map_toArray, List.map_cons, List.map_nil]); first | done | rfl | (simp only [List.length_drop, List.length_take]; rfl)) ?_; (with_reducible refine (cmp_isNaN_string.calls a0 false _ A3.out).mono ?_); rintro e w' ⟨rfl, ⟨nd, rfl⟩⟩; refine ⟨_, rfl, ?_⟩) | ((with_reducible refine gate_callee (f := 107) rfl ?_); refine goesL_ (some 10) rfl rfl Tryz.func107 (by kernel_rfl) rfl #[.string a1] rfl (by (try simp only [List.map_toArray, List.map_cons, List.map_nil]); first | done | rfl | (simp only [List.length_drop, List.length_take]; rfl)) ?_; (with_reducible refine (cmp_isNaN_string.calls a1 false _ A4.out).mono ?_); rintro e w' ⟨rfl, ⟨nd, rfl⟩⟩; refine ⟨_, rfl, ?_⟩))
     go_ret
     exact ⟨by first | rfl | (simp; done) | (simp [*]; done), by repeat (first | exact Drawn0.refl _ | apply Drawn0.step)⟩
    ·rw [if_neg c9] at H
     have c9b0 : (Op.bytesLess a1.toList a0.toList) = false := by simpa using c9
     clear c9; have e9_ : (a0.toList == a1.toList) = !(Op.bytesLess a1.toList a0.toList) := (by have h_ := less_turn a0.toList a1.toList; rw [c8b0] at h_; simpa using congrArg (!·) h_.symm); rw [c9b0] at e9_
     obtain rfl := Option.some.inj H
     go_enter Tryz.func85, Tryz.ntmps85
     go_wp2_with (first | ((with_reducible refine gate_callee (f := 107) rfl ?_); refine goesL_ (some 8) rfl rfl Tryz.func107 (by kernel_rfl) rfl #[.string a0] rfl (by (try simp only [List.map_toArray, List.map_cons, List.map_nil]); first | done | rfl | (simp only [List.length_drop, List.length_take]; rfl)) ?_; (with_reducible refine (cmp_isNaN_string.calls a0 false _ A3.out).mono ?_); rintro e w' ⟨rfl, ⟨nd, rfl⟩⟩; refine ⟨_, rfl, ?_⟩) | ((with_reducible refine gate_callee (f := 107) rfl ?_); refine goesL_ (some 10) rfl rfl Tryz.func107 (by kernel_rfl) rfl #[.string a1] rfl (by (try simp only [List.map_toArray, List.map_cons, List.map_nil]); first | done | rfl | (simp only [List.length_drop, List.length_take]; rfl)) ?_; (with_reducible refine (cmp_isNaN_string.calls a1 false _ A4.out).mono ?_); rintro e w' ⟨rfl, ⟨nd, rfl⟩⟩; refine ⟨_, rfl, ?_⟩))
     go_ret
     exact ⟨by first | rfl | (simp; done) | (simp [*]; done), by repeat (first | exact Drawn0.refl _ | apply Drawn0.step)⟩
end Go.Proofs.YtlenlhnpmblicaaGreatDoor.XA
end
section
set_option linter.unusedVariables false
set_option linter.unusedSimpArgs false
namespace Go.Proofs.YtlenlhnpmblicaaGreatDoor.XA
set_option linter.unusedSimpArgs false
set_option linter.unusedVariables false
open Go.RowKit
open Go.Proofs.YtlenlhnpmblicaaGreatDoorW.PrintWords Go.Proofs.YtlenlhnpmblicaaGreatDoorW.PrintLast Go.Proofs.YtlenlhnpmblicaaGreatDoorW.PrintMore
theorem ints_C (W : World) (xs : List Int) (hm : xs.length ≤ 1000000) : Kd.C (Kd.int .i64) (W.alloc (.cells (nums .i64 xs).toArray 3)) (some ⟨W.heap.size, 0, none⟩) xs.length xs := by
 have h := own_lit W 0 3 .i64 xs (Nat.zero_le _) (by omega)
 obtain ⟨A, c, he, _, hC⟩ := Kd.R_reads (Kd.R_of_own (enc := Value.int .i64) (h1 := fun _ => rfl) (ok := fun _ => True) h (fun _ _ => trivial))
 injection he with h1
 rw [h1]; exact hC
structure CB (w : World) (A : Option Addr) (n c : Nat) (W : World) : Prop where
 a : W.heap[w.heap.size]? = some (.cells #[.int .i64 2, .int .i64 3000, .int .i64 4100, .string ⟨#[]⟩, .bool false, .slice A n c, .int .i64 1] 32 (0, 0))
 b : W.heap[w.heap.size + 1]? = some (.cells #[.int .i64 4, .int .i64 (-1), .int .i64 (-1), .string ⟨#[120, 95, 49]⟩, .bool true, .slice none 0 0, .int .i64 0] 32 (0, 0))
 bel : Below w.heap.size w W
theorem CB.step {w : World} {A : Option Addr} {n c : Nat} {W W' : World} (h : CB w A n c W) (hb : Below W.heap.size W W') : CB w A n c W' :=
 ⟨(hb.block _ (blk_lt h.a)).trans h.a, (hb.block _ (blk_lt h.b)).trans h.b, h.bel.trans (hb.mono h.bel.size)⟩
theorem CB.mk2 (w : World) (A : Option Addr) (n c : Nat) : CB w A n c ((w.alloc (.cells #[.int .i64 2, .int .i64 3000, .int .i64 4100, .string ⟨#[]⟩, .bool false, .slice A n c, .int .i64 1] 32)).alloc (.cells #[.int .i64 4, .int .i64 (-1), .int .i64 (-1), .string ⟨#[120, 95, 49]⟩, .bool true, .slice none 0 0, .int .i64 0] 32)) := by
 have e : ∀ i : Nat, ((w.alloc (.cells #[.int .i64 2, .int .i64 3000, .int .i64 4100, .string ⟨#[]⟩, .bool false, .slice A n c, .int .i64 1] 32)).alloc (.cells #[.int .i64 4, .int .i64 (-1), .int .i64 (-1), .string ⟨#[120, 95, 49]⟩, .bool true, .slice none 0 0, .int .i64 0] 32)).heap[i]? = ((w.heap.push (.cells #[.int .i64 2, .int .i64 3000, .int .i64 4100, .string ⟨#[]⟩, .bool false, .slice A n c, .int .i64 1] 32)).push (.cells #[.int .i64 4, .int .i64 (-1), .int .i64 (-1), .string ⟨#[120, 95, 49]⟩, .bool true, .slice none 0 0, .int .i64 0] 32))[i]? := fun _ => rfl
 refine ⟨?_, ?_, below_alloc (below_alloc (Below.refl _ _) _) _⟩
 ·rw [e]; simp [Array.getElem?_push]
 ·rw [e, Array.getElem?_push, if_pos (by simp)]
set_option maxRecDepth 100000 in
set_option maxHeartbeats 8000000 in
theorem comp_ab (w : World) (A : Option Addr) (n c : Nat) : Calls Tryz.prog 51 #[.agg #[.int .i64 2, .int .i64 3000, .int .i64 4100, .string ⟨#[]⟩, .bool false, .slice A n c, .int .i64 1], .agg #[.int .i64 4, .int .i64 (-1), .int .i64 (-1), .string ⟨#[120, 95, 49]⟩, .bool true, .slice none 0 0, .int .i64 0]] w fun e w' => e = .returned (.int .i64 (-1)) ∧ Below w.heap.size w w' := by
 have hT := Tryz.underlying32
 have hT3 := Tryz.underlying30
 have HK0 : Hid (∀ W : World, Calls Tryz.prog 84 #[.int .i64 2, .int .i64 4] W fun e w' => e = .returned (.int .i64 (-1)) ∧ Below W.heap.size W w') := Lib.hid (fun W => (cmp_Compare_int.calls 2 4 (-1) W rfl).mono fun e w' h => ⟨h.1, h.2.below⟩)
 have HK1 : Hid (∀ W : World, Calls Tryz.prog 84 #[.int .i64 3000, .int .i64 (-1)] W fun e w' => e = .returned (.int .i64 1) ∧ Below W.heap.size W w') := Lib.hid (fun W => (cmp_Compare_int.calls 3000 (-1) 1 W rfl).mono fun e w' h => ⟨h.1, h.2.below⟩)
 have HK2 : Hid (∀ W : World, Calls Tryz.prog 84 #[.int .i64 4100, .int .i64 (-1)] W fun e w' => e = .returned (.int .i64 1) ∧ Below W.heap.size W w') := Lib.hid (fun W => (cmp_Compare_int.calls 4100 (-1) 1 W rfl).mono fun e w' h => ⟨h.1, h.2.below⟩)
 have HK3 : Hid (∀ W : World, Calls Tryz.prog 85 #[.string ⟨#[]⟩, .string ⟨#[120, 95, 49]⟩] W fun e w' => e = .returned (.int .i64 (-1)) ∧ Below W.heap.size W w') := Lib.hid (fun W => (cmp_Compare_string.calls ⟨#[]⟩ ⟨#[120, 95, 49]⟩ (-1) W (by kernel_rfl)).mono fun e w' h => ⟨h.1, h.2.below⟩)
 have HK4 : Hid (∀ W : World, Calls Tryz.prog 83 #[.slice (some ⟨W.heap.size, 0, none⟩) 4 4] (W.alloc (.cells #[.int .i64 (-1), .int .i64 1, .int .i64 1, .int .i64 (-1)] 3)) fun e w' => e = .returned (.int .i64 (-1)) ∧ Below (W.alloc (.cells #[.int .i64 (-1), .int .i64 1, .int .i64 1, .int .i64 (-1)] 3)).heap.size (W.alloc (.cells #[.int .i64 (-1), .int .i64 1, .int .i64 1, .int .i64 (-1)] 3)) w') := Lib.hid (fun W => (cmp_Or_int.calls 10 (some ⟨W.heap.size, 0, none⟩) 4 [-1, 1, 1, -1] (-1) _ (ints_C W [-1, 1, 1, -1] (by decide)) (by decide) (by kernel_rfl)).mono fun e w' h => ⟨h.1, h.2.below⟩)
 have H2 := Lib.hid (CB.mk2 w A n c)
 go_enter Tryz.func51, Tryz.ntmps51
 try simp only [List.append_eq, List.cons_append, List.nil_append]
 go_upto_region 1 with fail
 generalize (w.alloc (.cells #[.int .i64 2, .int .i64 3000, .int .i64 4100, .string ⟨#[]⟩, .bool false, .slice A n c, .int .i64 1] 32)).alloc (.cells #[.int .i64 4, .int .i64 (-1), .int .i64 (-1), .string ⟨#[120, 95, 49]⟩, .bool true, .slice none 0 0, .int .i64 0] 32) = w2 at H2 ⊢
 have HD : Hid (CB w A n c w2.drew) := Lib.hid (H2.out.step (Below.refl _ _).drew)
 have z0 : w2.drew.cell? ⟨w.heap.size, 0, none⟩ = some (.int .i64 2) := (blk_cell HD.out.a 0).trans rfl
 have z1 : w2.drew.cell? ⟨w.heap.size, 1, none⟩ = some (.int .i64 3000) := (blk_cell HD.out.a 1).trans rfl
 have z2 : w2.drew.cell? ⟨w.heap.size, 2, none⟩ = some (.int .i64 4100) := (blk_cell HD.out.a 2).trans rfl
 have z3 : w2.drew.cell? ⟨w.heap.size, 3, none⟩ = some (.string ⟨#[]⟩) := (blk_cell HD.out.a 3).trans rfl
 have z4 : w2.drew.cell? ⟨w.heap.size + 1, 0, none⟩ = some (.int .i64 4) := (blk_cell HD.out.b 0).trans rfl
 have z5 : w2.drew.cell? ⟨w.heap.size + 1, 1, none⟩ = some (.int .i64 (-1)) := (blk_cell HD.out.b 1).trans rfl
 have z6 : w2.drew.cell? ⟨w.heap.size + 1, 2, none⟩ = some (.int .i64 (-1)) := (blk_cell HD.out.b 2).trans rfl
 have z7 : w2.drew.cell? ⟨w.heap.size + 1, 3, none⟩ = some (.string ⟨#[120, 95, 49]⟩) := (blk_cell HD.out.b 3).trans rfl
 refine rs_ (S := fun w' => w'.cell? ⟨w.heap.size, 0, none⟩ = some (.int .i64 2) ∧ w'.cell? ⟨w.heap.size, 1, none⟩ = some (.int .i64 3000) ∧ w'.cell? ⟨w.heap.size, 2, none⟩ = some (.int .i64 4100) ∧ w'.cell? ⟨w.heap.size, 3, none⟩ = some (.string ⟨#[]⟩) ∧ w'.cell? ⟨w.heap.size + 1, 0, none⟩ = some (.int .i64 4) ∧ w'.cell? ⟨w.heap.size + 1, 1, none⟩ = some (.int .i64 (-1)) ∧ w'.cell? ⟨w.heap.size + 1, 2, none⟩ = some (.int .i64 (-1)) ∧ w'.cell? ⟨w.heap.size + 1, 3, none⟩ = some (.string ⟨#[120, 95, 49]⟩)) [0, 2, 5, 7, 10, 12, 15, 17, 1, 3, 6, 8, 11, 13, 16, 18, 4, 9, 14, 19, 20, 21, 22] ⟨z0, z1, z2, z3, z4, z5, z6, z7⟩ (fun hHeld => ?_)
 generalize w2.drew = wd at HD z0 z1 z2 z3 z4 z5 z6 z7 hHeld ⊢
 iterate 8 refine rp_ ?_
 iterate 8 refine rt_ hHeld ?_ (hy := by rintro w' ⟨s0, s1, s2, s3, s4, s5, s6, s7⟩; go_simp; with_reducible rfl)
 refine rc_ #[.int .i64 2, .int .i64 4] ((HK0.out _).mono ?_)
 rintro e w4 ⟨rfl, hb4⟩
 have HD4 := Lib.hid (HD.out.step hb4)
 clear hb4
 refine rk_ ⟨(blk_cell HD4.out.a 0).trans rfl, (blk_cell HD4.out.a 1).trans rfl, (blk_cell HD4.out.a 2).trans rfl, (blk_cell HD4.out.a 3).trans rfl, (blk_cell HD4.out.b 0).trans rfl, (blk_cell HD4.out.b 1).trans rfl, (blk_cell HD4.out.b 2).trans rfl, (blk_cell HD4.out.b 3).trans rfl⟩ fun hHeld => ?_
 refine rc_ #[.int .i64 3000, .int .i64 (-1)] ((HK1.out _).mono ?_)
 rintro e w9 ⟨rfl, hb9⟩
 have HD9 := Lib.hid (HD4.out.step hb9)
 clear hb9
 refine rk_ ⟨(blk_cell HD9.out.a 0).trans rfl, (blk_cell HD9.out.a 1).trans rfl, (blk_cell HD9.out.a 2).trans rfl, (blk_cell HD9.out.a 3).trans rfl, (blk_cell HD9.out.b 0).trans rfl, (blk_cell HD9.out.b 1).trans rfl, (blk_cell HD9.out.b 2).trans rfl, (blk_cell HD9.out.b 3).trans rfl⟩ fun hHeld => ?_
 refine rc_ #[.int .i64 4100, .int .i64 (-1)] ((HK2.out _).mono ?_)
 rintro e w14 ⟨rfl, hb14⟩
 have HD14 := Lib.hid (HD9.out.step hb14)
 clear hb14
 refine rk_ ⟨(blk_cell HD14.out.a 0).trans rfl, (blk_cell HD14.out.a 1).trans rfl, (blk_cell HD14.out.a 2).trans rfl, (blk_cell HD14.out.a 3).trans rfl, (blk_cell HD14.out.b 0).trans rfl, (blk_cell HD14.out.b 1).trans rfl, (blk_cell HD14.out.b 2).trans rfl, (blk_cell HD14.out.b 3).trans rfl⟩ fun hHeld => ?_
 refine rc_ #[.string ⟨#[]⟩, .string ⟨#[120, 95, 49]⟩] ((HK3.out _).mono ?_)
 rintro e w19 ⟨rfl, hb19⟩
 have HD19 := Lib.hid (HD14.out.step hb19)
 clear hb19
 refine rk_ ⟨(blk_cell HD19.out.a 0).trans rfl, (blk_cell HD19.out.a 1).trans rfl, (blk_cell HD19.out.a 2).trans rfl, (blk_cell HD19.out.a 3).trans rfl, (blk_cell HD19.out.b 0).trans rfl, (blk_cell HD19.out.b 1).trans rfl, (blk_cell HD19.out.b 2).trans rfl, (blk_cell HD19.out.b 3).trans rfl⟩ fun hHeld => ?_
 refine r1_ (fun K hK => ?_)
 refine value_ (w1 := ?_) (v := ?_) (by rfl) rfl ?_ ?_
 rotate_left 2
 ·go_simp
  constructor
  ·rfl
  ·rfl
 refine hK.out _ _ ⟨cell_alloc _ ((blk_cell HD19.out.a 0).trans rfl), cell_alloc _ ((blk_cell HD19.out.a 1).trans rfl), cell_alloc _ ((blk_cell HD19.out.a 2).trans rfl), cell_alloc _ ((blk_cell HD19.out.a 3).trans rfl), cell_alloc _ ((blk_cell HD19.out.b 0).trans rfl), cell_alloc _ ((blk_cell HD19.out.b 1).trans rfl), cell_alloc _ ((blk_cell HD19.out.b 2).trans rfl), cell_alloc _ ((blk_cell HD19.out.b 3).trans rfl)⟩ (fun hHeld => ?_)
 clear hK K
 refine rn_ ?_
 refine rc_ #[.slice (some ⟨w19.heap.size, 0, none⟩) 4 4] ((HK4.out w19).mono ?_)
 rintro e w21 ⟨rfl, hb21⟩
 have HD21 := Lib.hid ((HD19.out.step (below_alloc (Below.refl _ _) _)).step hb21)
 clear hb21
 refine rk_ ⟨(blk_cell HD21.out.a 0).trans rfl, (blk_cell HD21.out.a 1).trans rfl, (blk_cell HD21.out.a 2).trans rfl, (blk_cell HD21.out.a 3).trans rfl, (blk_cell HD21.out.b 0).trans rfl, (blk_cell HD21.out.b 1).trans rfl, (blk_cell HD21.out.b 2).trans rfl, (blk_cell HD21.out.b 3).trans rfl⟩ fun hHeld => ?_
 refine rp_ ?_
 refine rd_ ?_
 go_wp2
 go_ret
 exact ⟨rfl, HD21.out.bel⟩
set_option maxRecDepth 100000 in
theorem before_ab (w : World) (A : Option Addr) (n c : Nat) : Calls Tryz.prog 26 #[.agg #[.int .i64 2, .int .i64 3000, .int .i64 4100, .string ⟨#[]⟩, .bool false, .slice A n c, .int .i64 1], .agg #[.int .i64 4, .int .i64 (-1), .int .i64 (-1), .string ⟨#[120, 95, 49]⟩, .bool true, .slice none 0 0, .int .i64 0]] w fun e w' => e = .returned (.bool true) ∧ Below w.heap.size w w' := by
 have hT := Tryz.underlying32
 have hT3 := Tryz.underlying30
 have HK : Hid (∀ W : World, Calls Tryz.prog 51 #[.agg #[.int .i64 2, .int .i64 3000, .int .i64 4100, .string ⟨#[]⟩, .bool false, .slice A n c, .int .i64 1], .agg #[.int .i64 4, .int .i64 (-1), .int .i64 (-1), .string ⟨#[120, 95, 49]⟩, .bool true, .slice none 0 0, .int .i64 0]] W fun e w' => e = .returned (.int .i64 (-1)) ∧ Below W.heap.size W w') := Lib.hid (fun W => comp_ab W A n c)
 have H2 := Lib.hid (CB.mk2 w A n c)
 go_enter Tryz.func26, Tryz.ntmps26
 go_upto_region 1 with fail
 generalize (w.alloc (.cells #[.int .i64 2, .int .i64 3000, .int .i64 4100, .string ⟨#[]⟩, .bool false, .slice A n c, .int .i64 1] 32)).alloc (.cells #[.int .i64 4, .int .i64 (-1), .int .i64 (-1), .string ⟨#[120, 95, 49]⟩, .bool true, .slice none 0 0, .int .i64 0] 32) = w2 at H2 ⊢
 have HKW := Lib.hid (HK.out w2)
 have a0 := (blk_cell H2.out.a 0).trans rfl
 have b0 := (blk_cell H2.out.b 0).trans rfl
 have a1 := (blk_cell H2.out.a 1).trans rfl
 have b1 := (blk_cell H2.out.b 1).trans rfl
 have a2 := (blk_cell H2.out.a 2).trans rfl
 have b2 := (blk_cell H2.out.b 2).trans rfl
 have a3 := (blk_cell H2.out.a 3).trans rfl
 have b3 := (blk_cell H2.out.b 3).trans rfl
 have a4 := (blk_cell H2.out.a 4).trans rfl
 have b4 := (blk_cell H2.out.b 4).trans rfl
 have a5 := (blk_cell H2.out.a 5).trans rfl
 have b5 := (blk_cell H2.out.b 5).trans rfl
 have a6 := (blk_cell H2.out.a 6).trans rfl
 have b6 := (blk_cell H2.out.b 6).trans rfl
 go_wp2_with (go_at_call 51; refine HKW.out.mono ?_)
 first | (rintro e w3 rfl hb3) | (rintro e w3 ⟨rfl, hb3⟩)
 have H3 := Lib.hid (H2.out.step hb3)
 clear hb3
 try dsimp only
 go_wp2
 go_ret
 exact ⟨rfl, H3.out.bel⟩
theorem box_step {w W W' : World} {o : Obj} (h : Below w.heap.size w W ∧ W.heap[w.heap.size]? = some o) (hb : Below W.heap.size W W') : Below w.heap.size w W' ∧ W'.heap[w.heap.size]? = some o :=
 ⟨h.1.trans (hb.mono h.1.size), (hb.block _ (blk_lt h.2)).trans h.2⟩
set_option maxRecDepth 100000 in
set_option maxHeartbeats 8000000 in
theorem say_b (w : World) (hG : GOK w) : Calls Tryz.prog 31 #[.agg #[.int .i64 4, .int .i64 (-1), .int .i64 (-1), .string ⟨#[120, 95, 49]⟩, .bool true, .slice none 0 0, .int .i64 0]] w fun e w' => e = .returned (.string ((⟨#[110, 111, 32, 108, 105, 110, 101, 32, 117, 115, 101, 115, 32, 36]⟩ : ByteArray) ++ (⟨#[120, 95, 49]⟩ : ByteArray))) ∧ Below w.heap.size w w' := by
 have hT := Tryz.underlying32
 have hT3 := Tryz.underlying30
 have HN : Hid (∀ W : World, Below w.heap.size w W → Calls Tryz.prog 53 #[.int .i64 (-1)] W fun e w' => e = .returned (.string ⟨#[]⟩) ∧ Below W.heap.size W w') := Lib.hid (fun W hW => word_Number.calls 1 (-1) ⟨#[]⟩ W (hG.step hW) (number_f (-1) 0))
 have H2 := Lib.hid (And.intro (below_alloc (Below.refl w.heap.size w) (.cells #[.int .i64 4, .int .i64 (-1), .int .i64 (-1), .string ⟨#[120, 95, 49]⟩, .bool true, .slice none 0 0, .int .i64 0] 32)) (blk_alloc w (.cells #[.int .i64 4, .int .i64 (-1), .int .i64 (-1), .string ⟨#[120, 95, 49]⟩, .bool true, .slice none 0 0, .int .i64 0] 32)))
 clear hG
 go_enter Tryz.func31, Tryz.ntmps31
 try simp only [List.append_eq, List.cons_append, List.nil_append]
 go_upto_region 1 with fail
 generalize w.alloc (.cells #[.int .i64 4, .int .i64 (-1), .int .i64 (-1), .string ⟨#[120, 95, 49]⟩, .bool true, .slice none 0 0, .int .i64 0] 32) = w2 at H2 ⊢
 have HD := Lib.hid (box_step H2.out (Below.refl w2.heap.size w2).drew)
 have z1 : w2.drew.cell? ⟨w.heap.size, 1, none⟩ = some (.int .i64 (-1)) := (blk_cell HD.out.2 1).trans rfl
 have z2 : w2.drew.cell? ⟨w.heap.size, 2, none⟩ = some (.int .i64 (-1)) := (blk_cell HD.out.2 2).trans rfl
 refine rs_ (S := fun w' => w'.cell? ⟨w.heap.size, 1, none⟩ = some (.int .i64 (-1)) ∧ w'.cell? ⟨w.heap.size, 2, none⟩ = some (.int .i64 (-1))) [0, 4, 1, 5, 2, 3, 6, 7, 8, 9, 10] ⟨z1, z2⟩ (fun hHeld => ?_)
 generalize w2.drew = wd at HD z1 z2 hHeld ⊢
 iterate 2 refine rp_ ?_
 iterate 2 refine rt_ hHeld ?_ (hy := by rintro w' ⟨s0, s1⟩; go_simp; with_reducible rfl)
 refine rc_ #[.int .i64 (-1)] ((HN.out _ HD.out.1).mono ?_)
 rintro e w4 ⟨rfl, hb4⟩
 have HD4 := Lib.hid (box_step HD.out hb4)
 clear hb4
 refine rk_ ⟨(blk_cell HD4.out.2 1).trans rfl, (blk_cell HD4.out.2 2).trans rfl⟩ fun hHeld => ?_
 refine rp_ ?_
 refine rc_ #[.int .i64 (-1)] ((HN.out _ HD4.out.1).mono ?_)
 rintro e w6 ⟨rfl, hb6⟩
 have HD6 := Lib.hid (box_step HD4.out hb6)
 clear hb6
 refine rk_ ⟨(blk_cell HD6.out.2 1).trans rfl, (blk_cell HD6.out.2 2).trans rfl⟩ fun hHeld => ?_
 iterate 4 refine rp_ ?_
 refine rd_ ?_
 have y0 := (blk_cell HD6.out.2 0).trans rfl
 have y3 := (blk_cell HD6.out.2 3).trans rfl
 have y5 := (blk_cell HD6.out.2 5).trans rfl
 have y6 := (blk_cell HD6.out.2 6).trans rfl
 go_wp2
 go_ret
 exact ⟨rfl, HD6.out.1⟩
set_option maxRecDepth 100000 in
theorem Say_b (w : World) (hG : GOK w) : Calls Tryz.prog 13 #[.agg #[.int .i64 4, .int .i64 (-1), .int .i64 (-1), .string ⟨#[120, 95, 49]⟩, .bool true, .slice none 0 0, .int .i64 0]] w fun e w' => e = .returned (.tuple #[.string ⟨#[110, 111, 32, 108, 105, 110, 101, 32, 117, 115, 101, 115, 32, 36, 120, 95, 49, 32, 40, 97, 108, 108, 111, 119, 101, 100, 41]⟩, .int .i64 0]) ∧ Below w.heap.size w w' := by
 have hT := Tryz.underlying32
 have hT3 := Tryz.underlying30
 have H2 := Lib.hid (And.intro (below_alloc (Below.refl w.heap.size w) (.cells #[.int .i64 4, .int .i64 (-1), .int .i64 (-1), .string ⟨#[120, 95, 49]⟩, .bool true, .slice none 0 0, .int .i64 0] 32)) (blk_alloc w (.cells #[.int .i64 4, .int .i64 (-1), .int .i64 (-1), .string ⟨#[120, 95, 49]⟩, .bool true, .slice none 0 0, .int .i64 0] 32)))
 have hn : Kd.C (Kd.int .i64) (w.alloc (.cells #[.int .i64 4, .int .i64 (-1), .int .i64 (-1), .string ⟨#[120, 95, 49]⟩, .bool true, .slice none 0 0, .int .i64 0] 32)) none 0 [] := Kd.C_of_reads (enc := Value.int .i64) (d := (0 : Int)) (h1 := fun _ => rfl) (readsInt_of.1 (ReadsInt.nil _ .i64))
 have HR : Hid (Calls Tryz.prog 15 #[.agg #[.int .i64 4, .int .i64 (-1), .int .i64 (-1), .string ⟨#[120, 95, 49]⟩, .bool true, .slice none 0 0, .int .i64 0]] (w.alloc (.cells #[.int .i64 4, .int .i64 (-1), .int .i64 (-1), .string ⟨#[120, 95, 49]⟩, .bool true, .slice none 0 0, .int .i64 0] 32)) fun e w' => e = .returned (.bool true) ∧ Below (w.alloc (.cells #[.int .i64 4, .int .i64 (-1), .int .i64 (-1), .string ⟨#[120, 95, 49]⟩, .bool true, .slice none 0 0, .int .i64 0] 32)).heap.size (w.alloc (.cells #[.int .i64 4, .int .i64 (-1), .int .i64 (-1), .string ⟨#[120, 95, 49]⟩, .bool true, .slice none 0 0, .int .i64 0] 32)) w') := Lib.hid (note_Right.calls 4 (-1) (-1) ⟨#[120, 95, 49]⟩ true none 0 [] 0 true _ (hG.step H2.out.1) hn (by decide) (by kernel_rfl))
 have HS : Hid (∀ W : World, Below w.heap.size w W → Calls Tryz.prog 31 #[.agg #[.int .i64 4, .int .i64 (-1), .int .i64 (-1), .string ⟨#[120, 95, 49]⟩, .bool true, .slice none 0 0, .int .i64 0]] W fun e w' => e = .returned (.string ((⟨#[110, 111, 32, 108, 105, 110, 101, 32, 117, 115, 101, 115, 32, 36]⟩ : ByteArray) ++ (⟨#[120, 95, 49]⟩ : ByteArray))) ∧ Below W.heap.size W w') := Lib.hid (fun W hW => say_b W (hG.step hW))
 clear hG hn
 go_enter Tryz.func13, Tryz.ntmps13
 go_upto_region 1 with fail
 generalize w.alloc (.cells #[.int .i64 4, .int .i64 (-1), .int .i64 (-1), .string ⟨#[120, 95, 49]⟩, .bool true, .slice none 0 0, .int .i64 0] 32) = w2 at H2 HR ⊢
 have y0 := (blk_cell H2.out.2 0).trans rfl
 have y1 := (blk_cell H2.out.2 1).trans rfl
 have y2 := (blk_cell H2.out.2 2).trans rfl
 have y3 := (blk_cell H2.out.2 3).trans rfl
 have y4 := (blk_cell H2.out.2 4).trans rfl
 have y5 := (blk_cell H2.out.2 5).trans rfl
 have y6 := (blk_cell H2.out.2 6).trans rfl
 go_wp2_with (go_at_call 15; refine HR.out.mono ?_)
 first | (rintro e w3 rfl hb3) | (rintro e w3 ⟨rfl, hb3⟩)
 have H3 := Lib.hid (box_step H2.out hb3)
 have HSW := Lib.hid (HS.out w3 H3.out.1)
 clear hb3 HR H2 y0 y1 y2 y3 y4 y5 y6
 try dsimp only
 have y0 := (blk_cell H3.out.2 0).trans rfl
 have y1 := (blk_cell H3.out.2 1).trans rfl
 have y2 := (blk_cell H3.out.2 2).trans rfl
 have y3 := (blk_cell H3.out.2 3).trans rfl
 have y4 := (blk_cell H3.out.2 4).trans rfl
 have y5 := (blk_cell H3.out.2 5).trans rfl
 have y6 := (blk_cell H3.out.2 6).trans rfl
 go_wp2_with (go_at_call 31; refine HSW.out.mono ?_)
 first | (rintro e w4 rfl hb4) | (rintro e w4 ⟨rfl, hb4⟩)
 have H4 := Lib.hid (box_step H3.out hb4)
 clear hb4
 try dsimp only
 have hsz : (⟨#[110, 111, 32, 108, 105, 110, 101, 32, 117, 115, 101, 115, 32, 36]⟩ : ByteArray).size = 14 := rfl
 go_wp2
 go_ret2
 exact ⟨by first | rfl | kernel_rfl, H4.out.1⟩
end Go.Proofs.YtlenlhnpmblicaaGreatDoor.XA
end
section
set_option linter.unusedVariables false
set_option linter.unusedSimpArgs false
namespace Go.Proofs.YtlenlhnpmblicaaGreatDoor.XA
set_option linter.unusedSimpArgs false
set_option linter.unusedVariables false
open Go.RowKit
open Go.Proofs.YtlenlhnpmblicaaGreatDoorW.PrintWords Go.Proofs.YtlenlhnpmblicaaGreatDoorW.PrintLast Go.Proofs.YtlenlhnpmblicaaGreatDoorW.PrintMore
abbrev cellsA (gt : Nat) : List Value := [.int .i64 2, .int .i64 3000, .int .i64 4100, .string ⟨#[]⟩, .bool false, .slice (some ⟨gt, 0, none⟩) 2 2, .int .i64 1]
abbrev cellsB : List Value := [.int .i64 4, .int .i64 (-1), .int .i64 (-1), .string ⟨#[120, 95, 49]⟩, .bool true, .slice none 0 0, .int .i64 0]
structure AS (w : World) (gt ga gb : Nat) (W : World) : Prop where
 bel : Below w.heap.size w W
 t : W.heap[gt]? = some (.cells #[.int .i64 97, .int .i64 0] 3 (0, 0))
 a : W.heap[ga]? = some (.cells #[.int .i64 2, .int .i64 3000, .int .i64 4100, .string ⟨#[]⟩, .bool false, .slice (some ⟨gt, 0, none⟩) 2 2, .int .i64 1] 32 (0, 0))
 b : W.heap[gb]? = some (.cells #[.int .i64 4, .int .i64 (-1), .int .i64 (-1), .string ⟨#[120, 95, 49]⟩, .bool true, .slice none 0 0, .int .i64 0] 32 (0, 0))
theorem AS.step {w : World} {gt ga gb : Nat} {W W' : World} (h : AS w gt ga gb W) (hb : Below W.heap.size W W') : AS w gt ga gb W' :=
 ⟨h.bel.trans (hb.mono h.bel.size), (hb.block _ (blk_lt h.t)).trans h.t, (hb.block _ (blk_lt h.a)).trans h.a, (hb.block _ (blk_lt h.b)).trans h.b⟩
theorem nil_C (W : World) : Kd.C (Kd.int .i64) W none 0 [] := Kd.C_of_reads (enc := Value.int .i64) (d := (0 : Int)) (h1 := fun _ => rfl) (readsInt_of.1 (ReadsInt.nil W .i64))
theorem AS.text {w : World} {gt ga gb : Nat} {W : World} (h : AS w gt ga gb W) : Kd.C (Kd.int .i64) W (some ⟨gt, 0, none⟩) 2 [97, 0] :=
 Kd.C_of_reads (enc := Value.int .i64) (d := (0 : Int)) (h1 := fun _ => rfl) (readsInt_of.1 ⟨rfl, by decide, fun _ => ⟨⟨gt, 0, none⟩, rfl, fun j hj => by
  rw [add_plain]
  match j, hj with
  | 0, _ => exact (blk_cell h.t 0).trans rfl
  | 1, _ => exact (blk_cell h.t 1).trans rfl⟩⟩)
theorem pair_C {W : World} {g : Nat} (x y : S32) (lx ly : List Value) (hx : k32.K W x lx) (hy : k32.K W y ly) (l7x : lx.length = 7) (l7y : ly.length = 7) (hc : ∀ (j : Nat) v, (lx ++ ly)[j]? = some v → W.cell? ⟨g, j, none⟩ = some v) :
  Kd.C k32 W (some ⟨g, 0, none⟩) 2 [x, y] := by
 refine ⟨rfl, by decide, fun _ => ⟨⟨g, 0, none⟩, rfl, fun j p hj => ?_⟩⟩
 match j, hj with
 | 0, hj =>
  cases hj
  exact ⟨lx, l7x, hx, fun i u hu => by
   rw [add_plain]
   exact hc _ _ (by rw [Nat.zero_mul, Nat.zero_add, List.getElem?_append_left (List.getElem?_eq_some_iff.1 hu).1]; exact hu)⟩
 | 1, hj =>
  cases hj
  exact ⟨ly, l7y, hy, fun i u hu => by
   have e : 1 * k32.sz + i = 7 + i := rfl
   rw [add_plain, e]
   exact hc _ _ (by rw [List.getElem?_append_right (by omega), show 7 + i - lx.length = i by omega]; exact hu)⟩
 | j + 2, hj => simp at hj
theorem AS.kA {w : World} {gt ga gb : Nat} {W : World} (h : AS w gt ga gb W) : k32.K W aS (cellsA gt) := k32_mk W aS (A5 := some ⟨gt, 0, none⟩) (c5 := 2) (by decide) h.text
theorem kB (W : World) : k32.K W bS cellsB := k32_mk W bS (A5 := none) (c5 := 0) (by decide) (nil_C W)
theorem row_cells {W : World} {g : Nat} {T : TypeId} {l : List Value} (h : W.heap[g]? = some (.cells l.toArray T (0, 0))) (j : Nat) (v : Value) (hv : l[j]? = some v) : W.cell? ⟨g, j, none⟩ = some v :=
 (blk_cell h j).trans (by rw [List.getElem?_toArray]; exact hv)
theorem SQ.cells {W : World} {g : Nat} {l : List Value} (h : SQ W g l) (j : Nat) (v : Value) (hv : l[j]? = some v) : W.cell? ⟨g, j, none⟩ = some v := by
 obtain ⟨rest, h⟩ := h
 exact row_cells h j v (by rw [List.getElem?_append_left (List.getElem?_eq_some_iff.1 hv).1]; exact hv)
theorem AS.ab {w : World} {gt ga gb : Nat} {W : World} (h : AS w gt ga gb W) {g : Nat} (hc : ∀ (j : Nat) v, (cellsA gt ++ cellsB)[j]? = some v → W.cell? ⟨g, j, none⟩ = some v) : Kd.C k32 W (some ⟨g, 0, none⟩) 2 [aS, bS] :=
 pair_C aS bS _ _ h.kA (kB W) rfl rfl hc
theorem sort_calls (w : World) (gt ga gb : Nat) (W : World) (h : AS w gt ga gb W) (g0 : Nat) (hc : ∀ (j : Nat) v, (cellsB ++ cellsA gt)[j]? = some v → W.cell? ⟨g0, j, none⟩ = some v) :
  Calls Tryz.prog 24 #[.slice (some ⟨g0, 0, none⟩) 2 2] W fun e w' => ∃ g cp, e = .returned (.slice (some ⟨g, 0, none⟩) 2 cp) ∧ 2 ≤ cp ∧ SQ w' g (cellsA gt ++ cellsB) ∧ Below W.heap.size W w' := by
 have HC := Lib.hid (clone_calls W g0 2 cellsB (cellsA gt) rfl rfl (by simp [Value.oneCell']) (by simp [Value.oneCell']) hc)
 have HA := Lib.hid h
 clear hc h
 go_enter Tryz.func24, Tryz.ntmps24
 go_wp2_with (go_at_call 49; refine HC.out.mono ?_)
 first | (rintro e w1 g cp rfl h1 h2 h3 h4) | (rintro e w1 ⟨g, cp, rfl, h1, h2, h3, h4⟩)
 have HA1 := Lib.hid (HA.out.step h4)
 have HI := Lib.hid (ins_calls w1 g cp 4 (-1) (-1) ⟨#[120, 95, 49]⟩ true none 0 0 0 2 3000 4100 ⟨#[]⟩ false (some ⟨gt, 0, none⟩) 2 2 1 (-1) h3 (by decide) h1 (fun W' _ => comp_ab W' (some ⟨gt, 0, none⟩) 2 2))
 have HS := Lib.hid (sortStable_calls w1 (.slice (some ⟨g, 0, none⟩) 2 cp) ⟨_, _, rfl⟩ _ HI.out)
 have H4 := Lib.hid h4
 have H1 := Lib.hid h1
 have H2 := Lib.hid h2
 clear h1 h2 h3 h4 HC HA HI
 try dsimp only
 go_wp2_with (go_at_call 50; refine HS.out.mono ?_)
 first | (rintro e w2 rfl h5 h6) | (rintro e w2 ⟨rfl, h5, h6⟩)
 have H5 := Lib.hid h5
 have H6 := Lib.hid (H4.out.grown h6 H4.out.size (fun j hj => by cases hj; exact H2.out))
 clear h5 h6 HS
 try dsimp only
 go_wp2
 go_ret
 exact ⟨g, cp, rfl, H1.out, H5.out, H6.out⟩
end Go.Proofs.YtlenlhnpmblicaaGreatDoor.XA
end
section
set_option linter.unusedVariables false
set_option linter.unusedSimpArgs false
namespace Go.Proofs.YtlenlhnpmblicaaGreatDoor.XA
set_option linter.unusedSimpArgs false
set_option linter.unusedVariables false
open Go.RowKit
open Go.Proofs.YtlenlhnpmblicaaGreatDoorW.PrintWords Go.Proofs.YtlenlhnpmblicaaGreatDoorW.PrintLast Go.Proofs.YtlenlhnpmblicaaGreatDoorW.PrintMore
theorem blk_next (w : World) (o p : Obj) : ((w.alloc o).alloc p).heap[w.heap.size + 1]? = some p := by
 have e : ∀ i : Nat, ((w.alloc o).alloc p).heap[i]? = ((w.heap.push o).push p)[i]? := fun _ => rfl
 rw [e, Array.getElem?_push, if_pos (by simp)]
theorem SQ.step {W W' : World} {g : Nat} {l : List Value} (h : SQ W g l) (hb : Below W.heap.size W W') : SQ W' g l := by
 obtain ⟨rest, h⟩ := h
 exact ⟨rest, (hb.block _ (blk_lt h)).trans h⟩
structure FJ (w : World) (gt ga gb : Nat) (s : Nat × Nat × Nat × Nat) (W : World) : Prop where
 a : AS w gt ga gb W
 q : SQ W s.2.1 (cellsA gt ++ cellsB)
 r : W.heap[s.2.2.2]? = some (.cells (cellsA gt ++ cellsB).toArray 32 (0, 0))
 c : 2 ≤ s.2.2.1
theorem same_rows (w : World) (gt ga gb : Nat) (W : World) (A : Option Addr) (c : Nat) (g : Nat) (hA : AS w gt ga gb W) (hC : Kd.C k32 W A 2 [aS, bS]) (hc : 2 ≤ c) (hr : ∀ (j : Nat) v, (cellsA gt ++ cellsB)[j]? = some v → W.cell? ⟨g, j, none⟩ = some v) :
  Calls Tryz.prog 23 #[.slice A 2 c, .slice (some ⟨g, 0, none⟩) 2 2] W fun e w' => e = .returned (.bool true) ∧ Below W.heap.size W w' :=
 caesuraref27_Same.calls A c [aS, bS] (some ⟨g, 0, none⟩) 2 [aS, bS] true W hC hc (hA.ab hr) (by decide) (by kernel_rfl)
set_option maxRecDepth 100000 in
set_option maxHeartbeats 32000000 in
theorem alive_calls (w : World) (hG : GOK w) : Calls Tryz.prog 9 #[] w fun e w' => e = .returned (.bool true) ∧ Below w.heap.size w w' := by
 have hT := Tryz.underlying32
 have hT3 := Tryz.underlying30
 have HG := Lib.hid hG
 clear hG
 have h3 := three w (.cells #[.int .i64 97, .int .i64 0] 3) (.cells #[.int .i64 2, .int .i64 3000, .int .i64 4100, .string ⟨#[]⟩, .bool false, .slice (some ⟨w.heap.size, 0, none⟩) 2 2, .int .i64 1] 32) (.cells #[.int .i64 4, .int .i64 (-1), .int .i64 (-1), .string ⟨#[120, 95, 49]⟩, .bool true, .slice none 0 0, .int .i64 0] 32)
 have H2 : Hid (AS w w.heap.size (w.heap.size + 1) (w.heap.size + 1 + 1) (((w.alloc (.cells #[.int .i64 97, .int .i64 0] 3)).alloc (.cells #[.int .i64 2, .int .i64 3000, .int .i64 4100, .string ⟨#[]⟩, .bool false, .slice (some ⟨w.heap.size, 0, none⟩) 2 2, .int .i64 1] 32)).alloc (.cells #[.int .i64 4, .int .i64 (-1), .int .i64 (-1), .string ⟨#[120, 95, 49]⟩, .bool true, .slice none 0 0, .int .i64 0] 32))) := Lib.hid ⟨h3.2.2.2, h3.1, h3.2.1, h3.2.2.1⟩
 clear h3
 go_enter Tryz.func9, Tryz.ntmps9
 try simp only [List.append_eq, List.cons_append, List.nil_append]
 go_upto_region 3 with fail
 generalize ((w.alloc (.cells #[.int .i64 97, .int .i64 0] 3)).alloc (.cells #[.int .i64 2, .int .i64 3000, .int .i64 4100, .string ⟨#[]⟩, .bool false, .slice (some ⟨w.heap.size, 0, none⟩) 2 2, .int .i64 1] 32)).alloc (.cells #[.int .i64 4, .int .i64 (-1), .int .i64 (-1), .string ⟨#[120, 95, 49]⟩, .bool true, .slice none 0 0, .int .i64 0] 32) = w2 at H2 ⊢
 have a0 := (blk_cell H2.out.a 0).trans rfl
 have a1 := (blk_cell H2.out.a 1).trans rfl
 have a2 := (blk_cell H2.out.a 2).trans rfl
 have a3 := (blk_cell H2.out.a 3).trans rfl
 have a4 := (blk_cell H2.out.a 4).trans rfl
 have a5 := (blk_cell H2.out.a 5).trans rfl
 have a6 := (blk_cell H2.out.a 6).trans rfl
 have b0 := (blk_cell H2.out.b 0).trans rfl
 have b1 := (blk_cell H2.out.b 1).trans rfl
 have b2 := (blk_cell H2.out.b 2).trans rfl
 have b3 := (blk_cell H2.out.b 3).trans rfl
 have b4 := (blk_cell H2.out.b 4).trans rfl
 have b5 := (blk_cell H2.out.b 5).trans rfl
 have b6 := (blk_cell H2.out.b 6).trans rfl
 have hA2 := H2.out.step (below_alloc (Below.refl w2.heap.size w2) (.cells #[.int .i64 2, .int .i64 3000, .int .i64 4100, .string ⟨#[]⟩, .bool false, .slice (some ⟨w.heap.size, 0, none⟩) 2 2, .int .i64 1, .int .i64 4, .int .i64 (-1), .int .i64 (-1), .string ⟨#[120, 95, 49]⟩, .bool true, .slice none 0 0, .int .i64 0] 32))
 have HX : Hid (Calls Tryz.prog 17 #[.slice (some ⟨w2.heap.size, 0, none⟩) 2 2] (w2.alloc (.cells #[.int .i64 2, .int .i64 3000, .int .i64 4100, .string ⟨#[]⟩, .bool false, .slice (some ⟨w.heap.size, 0, none⟩) 2 2, .int .i64 1, .int .i64 4, .int .i64 (-1), .int .i64 (-1), .string ⟨#[120, 95, 49]⟩, .bool true, .slice none 0 0, .int .i64 0] 32)) fun e w' => e = .returned (.tuple #[.string ⟨#[115, 104, 97, 100, 111, 119, 32, 51, 32, 52, 46, 49, 32, 97, 92, 117, 123, 48, 125, 64, 49, 10, 97, 108, 108, 111, 119, 101, 100, 32, 117, 110, 117, 115, 101, 100, 32, 36, 120, 95, 49, 10]⟩, .int .i64 0]) ∧ Below (w2.alloc (.cells #[.int .i64 2, .int .i64 3000, .int .i64 4100, .string ⟨#[]⟩, .bool false, .slice (some ⟨w.heap.size, 0, none⟩) 2 2, .int .i64 1, .int .i64 4, .int .i64 (-1), .int .i64 (-1), .string ⟨#[120, 95, 49]⟩, .bool true, .slice none 0 0, .int .i64 0] 32)).heap.size (w2.alloc (.cells #[.int .i64 2, .int .i64 3000, .int .i64 4100, .string ⟨#[]⟩, .bool false, .slice (some ⟨w.heap.size, 0, none⟩) 2 2, .int .i64 1, .int .i64 4, .int .i64 (-1), .int .i64 (-1), .string ⟨#[120, 95, 49]⟩, .bool true, .slice none 0 0, .int .i64 0] 32)) w') :=
  Lib.hid (note_Text.calls (some ⟨w2.heap.size, 0, none⟩) 2 [aS, bS] aTxt 0 _ (HG.out.step hA2.bel) (hA2.ab (row_cells (l := cellsA w.heap.size ++ cellsB) (blk_alloc w2 (.cells #[.int .i64 2, .int .i64 3000, .int .i64 4100, .string ⟨#[]⟩, .bool false, .slice (some ⟨w.heap.size, 0, none⟩) 2 2, .int .i64 1, .int .i64 4, .int .i64 (-1), .int .i64 (-1), .string ⟨#[120, 95, 49]⟩, .bool true, .slice none 0 0, .int .i64 0] 32)))) (by decide) al_text)
 have HA2 := Lib.hid hA2
 clear hA2
 go_wp2_with (go_at_call 17; refine HX.out.mono ?_)
 first | (rintro e w3 rfl hb3) | (rintro e w3 ⟨rfl, hb3⟩)
 have hs3 : (w2.alloc (.cells #[.int .i64 2, .int .i64 3000, .int .i64 4100, .string ⟨#[]⟩, .bool false, .slice (some ⟨w.heap.size, 0, none⟩) 2 2, .int .i64 1, .int .i64 4, .int .i64 (-1), .int .i64 (-1), .string ⟨#[120, 95, 49]⟩, .bool true, .slice none 0 0, .int .i64 0] 32)).heap.size = w2.heap.size + 1 := by simp
 have H3 : Hid (AS w w.heap.size (w.heap.size + 1) (w.heap.size + 1 + 1) w3) := Lib.hid (by first | exact HA2.out.step hb3 | exact HA2.out.step (by rw [hs3]; exact hb3))
 have HP : Hid (Calls Tryz.prog 21 #[.string ⟨#[115, 104, 97, 100, 111, 119, 32, 51, 32, 52, 46, 49, 32, 97, 92, 117, 123, 48, 125, 64, 49, 10, 97, 108, 108, 111, 119, 101, 100, 32, 117, 110, 117, 115, 101, 100, 32, 36, 120, 95, 49, 10]⟩] w3 fun e w' => ∃ v0 : Value, e = .returned (.tuple #[v0, .int .i64 0]) ∧ Kd.S k32 32 w' w3.heap.size (fun _ => True) v0 [aS, bS] ∧ Below w3.heap.size w3 w') := Lib.hid (note_Parse.calls 10 aTxt [aS, bS] 0 w3 (HG.out.step H3.out.bel) al_parse)
 clear hb3 hs3 HX HA2 H2 a0 b0 a1 b1 a2 b2 a3 b3 a4 b4 a5 b5 a6 b6
 try dsimp only
 go_wp2_with (go_at_call 21; refine HP.out.mono ?_)
 first | (rintro e w4 v4 rfl hS4 hb4) | (rintro e w4 ⟨v4, rfl, hS4, hb4⟩)
 obtain ⟨A5, c5, rfl⟩ := Kd.S_slice hS4
 obtain ⟨_, hc5, hC5⟩ := Kd.S_reads' hS4
 have hc5' : 2 ≤ c5 := hc5
 have HC4 : Hid (Kd.C k32 w4 A5 2 [aS, bS]) := Lib.hid hC5
 have H4 := Lib.hid (H3.out.step hb4)
 have HC5 := Lib.hid hc5'
 have HL : Hid (Calls Tryz.prog 11 #[.agg #[.int .i64 0, .int .i64 0, .int .i64 0, .string ⟨#[]⟩, .bool false, .slice none 0 0, .int .i64 0]] w4 fun e w' => e = .returned (.tuple #[.string ⟨#[]⟩, .int .i64 1]) ∧ Below w4.heap.size w4 w') := Lib.hid (note_Line.calls 0 0 0 ⟨#[]⟩ false none 0 [] 0 ⟨#[]⟩ 1 w4 (HG.out.step H4.out.bel) (nil_C w4) (by decide) al_line)
 clear hS4 hb4 hC5 hc5 hc5' HP H3
 try dsimp only
 try simp only [List.length_cons, List.length_nil]
 go_wp2_with (go_at_call 11; refine HL.out.mono ?_)
 first | (rintro e w5 rfl hb5) | (rintro e w5 ⟨rfl, hb5⟩)
 have H5 := Lib.hid (H4.out.step hb5)
 have HCC5 := Lib.hid (Kd.C_below HC4.out hb5)
 have HSY : Hid (Calls Tryz.prog 13 #[.agg #[.int .i64 4, .int .i64 (-1), .int .i64 (-1), .string ⟨#[120, 95, 49]⟩, .bool true, .slice none 0 0, .int .i64 0]] w5 fun e w' => e = .returned (.tuple #[.string ⟨#[110, 111, 32, 108, 105, 110, 101, 32, 117, 115, 101, 115, 32, 36, 120, 95, 49, 32, 40, 97, 108, 108, 111, 119, 101, 100, 41]⟩, .int .i64 0]) ∧ Below w5.heap.size w5 w') := Lib.hid (Say_b w5 (HG.out.step H5.out.bel))
 clear hb5 HL H4 HC4
 try dsimp only
 have a0 := (blk_cell H5.out.a 0).trans rfl
 have a1 := (blk_cell H5.out.a 1).trans rfl
 have a2 := (blk_cell H5.out.a 2).trans rfl
 have a3 := (blk_cell H5.out.a 3).trans rfl
 have a4 := (blk_cell H5.out.a 4).trans rfl
 have a5 := (blk_cell H5.out.a 5).trans rfl
 have a6 := (blk_cell H5.out.a 6).trans rfl
 have b0 := (blk_cell H5.out.b 0).trans rfl
 have b1 := (blk_cell H5.out.b 1).trans rfl
 have b2 := (blk_cell H5.out.b 2).trans rfl
 have b3 := (blk_cell H5.out.b 3).trans rfl
 have b4 := (blk_cell H5.out.b 4).trans rfl
 have b5 := (blk_cell H5.out.b 5).trans rfl
 have b6 := (blk_cell H5.out.b 6).trans rfl
 go_wp2_with (go_at_call 13; refine HSY.out.mono ?_)
 first | (rintro e w6 rfl hb6) | (rintro e w6 ⟨rfl, hb6⟩)
 have H6 := Lib.hid (H5.out.step hb6)
 have HCC6 := Lib.hid (Kd.C_below HCC5.out hb6)
 have HPB : Hid (Calls Tryz.prog 21 #[.string ⟨#[100, 101, 97, 100, 32, 48, 51, 10]⟩] w6 fun e w' => ∃ v0 : Value, e = .returned (.tuple #[v0, .int .i64 15]) ∧ Kd.S k32 32 w' w6.heap.size (fun _ => True) v0 [] ∧ Below w6.heap.size w6 w') := Lib.hid (note_Parse.calls 10 aBad [] 15 w6 (HG.out.step H6.out.bel) al_bad)
 clear hb6 HSY H5 HCC5 a0 b0 a1 b1 a2 b2 a3 b3 a4 b4 a5 b5 a6 b6
 try dsimp only
 go_wp2_with (go_at_call 21; refine HPB.out.mono ?_)
 first | (rintro e w8 v8 rfl hS8 hb8) | (rintro e w8 ⟨v8, rfl, hS8, hb8⟩)
 obtain ⟨A6, c6, rfl⟩ := Kd.S_slice hS8
 have H8 := Lib.hid (H6.out.step hb8)
 have HCC8 := Lib.hid (Kd.C_below HCC6.out hb8)
 clear hb8 hS8 HPB H6 HCC6
 try dsimp only
 have HSM : Hid (∀ (W : World) (g : Nat), AS w w.heap.size (w.heap.size + 1) (w.heap.size + 1 + 1) W → Kd.C k32 W A5 2 [aS, bS] → (∀ (j : Nat) v, (cellsA w.heap.size ++ cellsB)[j]? = some v → W.cell? ⟨g, j, none⟩ = some v) → Calls Tryz.prog 23 #[.slice A5 2 c5, .slice (some ⟨g, 0, none⟩) 2 2] W fun e w' => e = .returned (.bool true) ∧ Below W.heap.size W w') := Lib.hid (fun W g hA hC hr => same_rows w _ _ _ W A5 c5 g hA hC HC5.out hr)
 have HSN : Hid (∀ (W : World) (g1 cp g3 : Nat), AS w w.heap.size (w.heap.size + 1) (w.heap.size + 1 + 1) W → SQ W g1 (cellsA w.heap.size ++ cellsB) → W.heap[g3]? = some (.cells (cellsA w.heap.size ++ cellsB).toArray 32 (0, 0)) → 2 ≤ cp → Calls Tryz.prog 23 #[.slice (some ⟨g1, 0, none⟩) 2 cp, .slice (some ⟨g3, 0, none⟩) 2 2] W fun e w' => e = .returned (.bool true) ∧ Below W.heap.size W w') := Lib.hid (fun W g1 cp g3 hA hQ hr hc => same_rows w _ _ _ W (some ⟨g1, 0, none⟩) cp g3 hA (hA.ab hQ.cells) hc (row_cells hr))
 have HRT : Hid (∀ W : World, AS w w.heap.size (w.heap.size + 1) (w.heap.size + 1 + 1) W → Calls Tryz.prog 15 #[.agg #[.int .i64 2, .int .i64 3000, .int .i64 4100, .string ⟨#[]⟩, .bool false, .slice (some ⟨w.heap.size, 0, none⟩) 2 2, .int .i64 1]] W fun e w' => e = .returned (.bool true) ∧ Below W.heap.size W w') := Lib.hid (fun W hA => note_Right.calls 2 3000 4100 ⟨#[]⟩ false (some ⟨w.heap.size, 0, none⟩) 2 [97, 0] 1 true W (HG.out.step hA.bel) hA.text (by decide) al_right)
 have HBT : Hid (∀ W : World, AS w w.heap.size (w.heap.size + 1) (w.heap.size + 1 + 1) W → Calls Tryz.prog 26 #[.agg #[.int .i64 2, .int .i64 3000, .int .i64 4100, .string ⟨#[]⟩, .bool false, .slice (some ⟨w.heap.size, 0, none⟩) 2 2, .int .i64 1], .agg #[.int .i64 4, .int .i64 (-1), .int .i64 (-1), .string ⟨#[120, 95, 49]⟩, .bool true, .slice none 0 0, .int .i64 0]] W fun e w' => e = .returned (.bool true) ∧ Below W.heap.size W w') := Lib.hid (fun W hA => before_ab W (some ⟨w.heap.size, 0, none⟩) 2 2)
 have HWT : Hid (∀ W : World, Calls Tryz.prog 19 #[.int .i64 7] W fun e w' => e = .returned (.string ⟨#[103, 97, 105, 110, 115]⟩) ∧ Below W.heap.size W w') := Lib.hid (fun W => note_Word.calls 7 ⟨#[103, 97, 105, 110, 115]⟩ W rfl)
 go_upto_region 8 with fail
 have HD : Hid (AS w w.heap.size (w.heap.size + 1) (w.heap.size + 1 + 1) w8.drew) := Lib.hid (H8.out.step (Below.refl _ _).drew)
 have HPd : Hid (Kd.C k32 w8.drew A5 2 [aS, bS]) := Lib.hid (Kd.C_below HCC8.out (Below.refl _ _).drew)
 have z0 := (blk_cell HD.out.a 0).trans rfl
 have z1 := (blk_cell HD.out.a 1).trans rfl
 have z2 := (blk_cell HD.out.a 2).trans rfl
 have z3 := (blk_cell HD.out.a 3).trans rfl
 have z4 := (blk_cell HD.out.a 4).trans rfl
 have z5 := (blk_cell HD.out.a 5).trans rfl
 have z6 := (blk_cell HD.out.a 6).trans rfl
 have z7 := (blk_cell HD.out.b 0).trans rfl
 have z8 := (blk_cell HD.out.b 1).trans rfl
 have z9 := (blk_cell HD.out.b 2).trans rfl
 have z10 := (blk_cell HD.out.b 3).trans rfl
 have z11 := (blk_cell HD.out.b 4).trans rfl
 have z12 := (blk_cell HD.out.b 5).trans rfl
 have z13 := (blk_cell HD.out.b 6).trans rfl
 refine start_ (n := 57) (S := fun w' => w'.cell? ⟨w.heap.size + 1, 0, none⟩ = some (.int .i64 2) ∧ w'.cell? ⟨w.heap.size + 1, 1, none⟩ = some (.int .i64 3000) ∧ w'.cell? ⟨w.heap.size + 1, 2, none⟩ = some (.int .i64 4100) ∧ w'.cell? ⟨w.heap.size + 1, 3, none⟩ = some (.string ⟨#[]⟩) ∧ w'.cell? ⟨w.heap.size + 1, 4, none⟩ = some (.bool false) ∧ w'.cell? ⟨w.heap.size + 1, 5, none⟩ = some (.slice (some ⟨w.heap.size, 0, none⟩) 2 2) ∧ w'.cell? ⟨w.heap.size + 1, 6, none⟩ = some (.int .i64 1) ∧ w'.cell? ⟨w.heap.size + 1 + 1, 0, none⟩ = some (.int .i64 4) ∧ w'.cell? ⟨w.heap.size + 1 + 1, 1, none⟩ = some (.int .i64 (-1)) ∧ w'.cell? ⟨w.heap.size + 1 + 1, 2, none⟩ = some (.int .i64 (-1)) ∧ w'.cell? ⟨w.heap.size + 1 + 1, 3, none⟩ = some (.string ⟨#[120, 95, 49]⟩) ∧ w'.cell? ⟨w.heap.size + 1 + 1, 4, none⟩ = some (.bool true) ∧ w'.cell? ⟨w.heap.size + 1 + 1, 5, none⟩ = some (.slice none 0 0) ∧ w'.cell? ⟨w.heap.size + 1 + 1, 6, none⟩ = some (.int .i64 0)) (ds := []) (bA 57 0) (by kernel_rfl) rfl rfl ⟨z0, z1, z2, z3, z4, z5, z6, z7, z8, z9, z10, z11, z12, z13⟩ (fun hHeld => ?_)
 generalize w8.drew = wd at HD HPd z0 z1 z2 z3 z4 z5 z6 z7 z8 z9 z10 z11 z12 z13 hHeld ⊢
 refine pS_ (bA 57 1) 0 (some 43) (h := ?_)
 refine pS_ (bA 57 3) 1 (some 44) (h := ?_)
 refine pS_ (bA 57 7) 2 (some 45) (h := ?_)
 refine pS_ (bA 57 15) 3 (some 46) (h := ?_)
 refine pS_ (bA 57 31) 4 (some 47) (h := ?_)
 refine pS_ (bA 57 63) 5 (some 48) (h := ?_)
 refine pS_ (bA 57 127) 6 (some 49) (h := ?_)
 refine pS_ (bA 57 255) 7 (some 50) (h := ?_)
 refine pS_ (bA 57 511) 8 (some 51) (h := ?_)
 refine pS_ (bA 57 1023) 9 (some 52) (h := ?_)
 refine pS_ (bA 57 2047) 10 (some 53) (h := ?_)
 refine pS_ (bA 57 4095) 11 (some 54) (h := ?_)
 refine tS_ (bA 57 8191) 12 (some 55) hHeld (hy := by rintro w' ⟨s0, s1, s2, s3, s4, s5, s6, s7, s8, s9, s10, s11, s12, s13⟩; go_simp; with_reducible rfl) (h := ?_)
 refine tS_ (bA 57 16383) 13 (some 56) hHeld (hy := by rintro w' ⟨s0, s1, s2, s3, s4, s5, s6, s7, s8, s9, s10, s11, s12, s13⟩; go_simp; with_reducible rfl) (h := ?_)
 refine one_ (i := 14) (N := some 57) (bA 57 32767) rfl rfl (by kernel_rfl) (by decide) (fun K hK => ?_)
 refine value_ (w1 := ?_) (v := ?_) (by rfl) rfl ?_ ?_
 rotate_left 2
 ·go_simp
  constructor
  ·rfl
  ·rfl
 refine hK.out _ _ ⟨cell_alloc _ z0, cell_alloc _ z1, cell_alloc _ z2, cell_alloc _ z3, cell_alloc _ z4, cell_alloc _ z5, cell_alloc _ z6, cell_alloc _ z7, cell_alloc _ z8, cell_alloc _ z9, cell_alloc _ z10, cell_alloc _ z11, cell_alloc _ z12, cell_alloc _ z13⟩ (fun hHeld => ?_)
 clear hK K
 refine norm_ (a' := ?_) ?_ ?_
 rotate_left
 ·show Act.put _ (some 57) _ = _
  simp only [Act.put, List.setIfInBounds_toArray, List.set_cons_zero, List.set_cons_succ, i64_w, i32_w]
  rfl
 refine one_ (i := 15) (N := some 58) (bA 57 65535) rfl rfl (by kernel_rfl) (by decide) (fun K hK => ?_)
 refine goes_ Tryz.func23 (by kernel_rfl) rfl #[.slice A5 2 c5, .slice (some ⟨wd.heap.size, 0, none⟩) 2 2] (by rfl) rfl rfl (by simp only [List.map_toArray, List.map_cons, List.map_nil]; rfl) ?_
 with_reducible refine (HSM.out _ wd.heap.size (HD.out.step (below_alloc (Below.refl _ _) _)) (Kd.C_below HPd.out (below_alloc (Below.refl _ _) _)) (row_cells (l := cellsA w.heap.size ++ cellsB) (blk_alloc wd (.cells #[.int .i64 2, .int .i64 3000, .int .i64 4100, .string ⟨#[]⟩, .bool false, .slice (some ⟨w.heap.size, 0, none⟩) 2 2, .int .i64 1, .int .i64 4, .int .i64 (-1), .int .i64 (-1), .string ⟨#[120, 95, 49]⟩, .bool true, .slice none 0 0, .int .i64 0] 32)))).mono ?_
 rintro e w15 ⟨rfl, hb15⟩
 refine ⟨_, rfl, ?_⟩
 have HD15 := Lib.hid ((HD.out.step (below_alloc (Below.refl _ _) _)).step hb15)
 clear hb15
 refine hK.out _ _ ⟨(blk_cell HD15.out.a 0).trans rfl, (blk_cell HD15.out.a 1).trans rfl, (blk_cell HD15.out.a 2).trans rfl, (blk_cell HD15.out.a 3).trans rfl, (blk_cell HD15.out.a 4).trans rfl, (blk_cell HD15.out.a 5).trans rfl, (blk_cell HD15.out.a 6).trans rfl, (blk_cell HD15.out.b 0).trans rfl, (blk_cell HD15.out.b 1).trans rfl, (blk_cell HD15.out.b 2).trans rfl, (blk_cell HD15.out.b 3).trans rfl, (blk_cell HD15.out.b 4).trans rfl, (blk_cell HD15.out.b 5).trans rfl, (blk_cell HD15.out.b 6).trans rfl⟩ (fun hHeld => ?_)
 clear hK K
 refine norm_ (a' := ?_) ?_ ?_
 rotate_left
 ·show Act.put _ (some 58) _ = _
  simp only [Act.put, List.setIfInBounds_toArray, List.set_cons_zero, List.set_cons_succ, i64_w, i32_w]
  rfl
 refine pS_ (bA 57 131071) 16 (some 59) (h := ?_)
 refine pS_ (bA 57 262143) 17 (some 60) (h := ?_)
 refine pS_ (bA 57 524287) 18 (some 61) (h := ?_)
 refine pS_ (bA 57 1048575) 19 (some 62) (h := ?_)
 refine pS_ (bA 57 2097151) 20 (some 63) (h := ?_)
 refine pS_ (bA 57 4194303) 21 (some 64) (h := ?_)
 refine pS_ (bA 57 8388607) 22 (some 65) (h := ?_)
 refine pS_ (bA 57 16777215) 23 (some 66) (h := ?_)
 refine pS_ (bA 57 33554431) 24 (some 67) (h := ?_)
 refine pS_ (bA 57 67108863) 25 (some 68) (h := ?_)
 refine pS_ (bA 57 134217727) 26 (some 69) (h := ?_)
 refine pS_ (bA 57 268435455) 27 (some 70) (h := ?_)
 refine pS_ (bA 57 536870911) 28 (some 71) (h := ?_)
 refine pS_ (bA 57 1073741823) 29 (some 72) (h := ?_)
 refine pS_ (bA 57 2147483647) 30 (some 73) (h := ?_)
 refine pS_ (bA 57 4294967295) 31 (some 74) (h := ?_)
 refine pS_ (bA 57 8589934591) 32 (some 75) (h := ?_)
 refine pS_ (bA 57 17179869183) 33 (some 76) (h := ?_)
 refine one_ (i := 34) (N := some 77) (bA 57 34359738367) rfl rfl (by kernel_rfl) (by decide) (fun K hK => ?_)
 refine goes_ Tryz.func19 (by kernel_rfl) rfl #[.int .i64 7] (by rfl) rfl rfl (by simp only [List.map_toArray, List.map_cons, List.map_nil]; rfl) ?_
 with_reducible refine (HWT.out _).mono ?_
 rintro e w34 ⟨rfl, hb34⟩
 refine ⟨_, rfl, ?_⟩
 have HD34 := Lib.hid (HD15.out.step hb34)
 clear hb34
 refine hK.out _ _ ⟨(blk_cell HD34.out.a 0).trans rfl, (blk_cell HD34.out.a 1).trans rfl, (blk_cell HD34.out.a 2).trans rfl, (blk_cell HD34.out.a 3).trans rfl, (blk_cell HD34.out.a 4).trans rfl, (blk_cell HD34.out.a 5).trans rfl, (blk_cell HD34.out.a 6).trans rfl, (blk_cell HD34.out.b 0).trans rfl, (blk_cell HD34.out.b 1).trans rfl, (blk_cell HD34.out.b 2).trans rfl, (blk_cell HD34.out.b 3).trans rfl, (blk_cell HD34.out.b 4).trans rfl, (blk_cell HD34.out.b 5).trans rfl, (blk_cell HD34.out.b 6).trans rfl⟩ (fun hHeld => ?_)
 clear hK K
 refine norm_ (a' := ?_) ?_ ?_
 rotate_left
 ·show Act.put _ (some 77) _ = _
  simp only [Act.put, List.setIfInBounds_toArray, List.set_cons_zero, List.set_cons_succ, i64_w, i32_w]
  rfl
 refine pS_ (bA 57 68719476735) 35 (some 78) (h := ?_)
 refine pS_ (bA 57 137438953471) 36 (some 79) (h := ?_)
 refine pS_ (bA 57 274877906943) 37 (some 80) (h := ?_)
 refine tS_ (bA 57 549755813887) 38 (some 81) hHeld (hy := by rintro w' ⟨s0, s1, s2, s3, s4, s5, s6, s7, s8, s9, s10, s11, s12, s13⟩; go_simp; with_reducible rfl) (h := ?_)
 refine one_ (i := 39) (N := some 82) (bA 57 1099511627775) rfl rfl (by kernel_rfl) (by decide) (fun K hK => ?_)
 refine goes_ Tryz.func15 (by kernel_rfl) rfl #[.agg #[.int .i64 2, .int .i64 3000, .int .i64 4100, .string ⟨#[]⟩, .bool false, .slice (some ⟨w.heap.size, 0, none⟩) 2 2, .int .i64 1]] (by rfl) rfl rfl (by simp only [List.map_toArray, List.map_cons, List.map_nil]; rfl) ?_
 with_reducible refine (HRT.out _ HD34.out).mono ?_
 rintro e w39 ⟨rfl, hb39⟩
 refine ⟨_, rfl, ?_⟩
 have HD39 := Lib.hid (HD34.out.step hb39)
 clear hb39
 refine hK.out _ _ ⟨(blk_cell HD39.out.a 0).trans rfl, (blk_cell HD39.out.a 1).trans rfl, (blk_cell HD39.out.a 2).trans rfl, (blk_cell HD39.out.a 3).trans rfl, (blk_cell HD39.out.a 4).trans rfl, (blk_cell HD39.out.a 5).trans rfl, (blk_cell HD39.out.a 6).trans rfl, (blk_cell HD39.out.b 0).trans rfl, (blk_cell HD39.out.b 1).trans rfl, (blk_cell HD39.out.b 2).trans rfl, (blk_cell HD39.out.b 3).trans rfl, (blk_cell HD39.out.b 4).trans rfl, (blk_cell HD39.out.b 5).trans rfl, (blk_cell HD39.out.b 6).trans rfl⟩ (fun hHeld => ?_)
 clear hK K
 refine norm_ (a' := ?_) ?_ ?_
 rotate_left
 ·show Act.put _ (some 82) _ = _
  simp only [Act.put, List.setIfInBounds_toArray, List.set_cons_zero, List.set_cons_succ, i64_w, i32_w]
  rfl
 refine pS_ (bA 57 2199023255551) 40 (some 83) (h := ?_)
 refine pS_ (bA 57 4398046511103) 41 (some 84) (h := ?_)
 refine tS_ (bA 57 8796093022207) 42 (some 85) hHeld (hy := by rintro w' ⟨s0, s1, s2, s3, s4, s5, s6, s7, s8, s9, s10, s11, s12, s13⟩; go_simp; with_reducible rfl) (h := ?_)
 refine tS_ (bA 57 17592186044415) 43 (some 86) hHeld (hy := by rintro w' ⟨s0, s1, s2, s3, s4, s5, s6, s7, s8, s9, s10, s11, s12, s13⟩; go_simp; with_reducible rfl) (h := ?_)
 refine one_ (i := 44) (N := some 87) (bA 57 35184372088831) rfl rfl (by kernel_rfl) (by decide) (fun K hK => ?_)
 refine goes_ Tryz.func26 (by kernel_rfl) rfl #[.agg #[.int .i64 2, .int .i64 3000, .int .i64 4100, .string ⟨#[]⟩, .bool false, .slice (some ⟨w.heap.size, 0, none⟩) 2 2, .int .i64 1], .agg #[.int .i64 4, .int .i64 (-1), .int .i64 (-1), .string ⟨#[120, 95, 49]⟩, .bool true, .slice none 0 0, .int .i64 0]] (by rfl) rfl rfl (by simp only [List.map_toArray, List.map_cons, List.map_nil]; rfl) ?_
 with_reducible refine (HBT.out _ HD39.out).mono ?_
 rintro e w44 ⟨rfl, hb44⟩
 refine ⟨_, rfl, ?_⟩
 have HD44 := Lib.hid (HD39.out.step hb44)
 clear hb44
 refine hK.out _ _ ⟨(blk_cell HD44.out.a 0).trans rfl, (blk_cell HD44.out.a 1).trans rfl, (blk_cell HD44.out.a 2).trans rfl, (blk_cell HD44.out.a 3).trans rfl, (blk_cell HD44.out.a 4).trans rfl, (blk_cell HD44.out.a 5).trans rfl, (blk_cell HD44.out.a 6).trans rfl, (blk_cell HD44.out.b 0).trans rfl, (blk_cell HD44.out.b 1).trans rfl, (blk_cell HD44.out.b 2).trans rfl, (blk_cell HD44.out.b 3).trans rfl, (blk_cell HD44.out.b 4).trans rfl, (blk_cell HD44.out.b 5).trans rfl, (blk_cell HD44.out.b 6).trans rfl⟩ (fun hHeld => ?_)
 clear hK K
 refine norm_ (a' := ?_) ?_ ?_
 rotate_left
 ·show Act.put _ (some 87) _ = _
  simp only [Act.put, List.setIfInBounds_toArray, List.set_cons_zero, List.set_cons_succ, i64_w, i32_w]
  rfl
 refine pS_ (bA 57 70368744177663) 45 (some 88) (h := ?_)
 refine pS_ (bA 57 140737488355327) 46 (some 89) (h := ?_)
 refine tS_ (bA 57 281474976710655) 47 (some 90) hHeld (hy := by rintro w' ⟨s0, s1, s2, s3, s4, s5, s6, s7, s8, s9, s10, s11, s12, s13⟩; go_simp; with_reducible rfl) (h := ?_)
 refine tS_ (bA 57 562949953421311) 48 (some 91) hHeld (hy := by rintro w' ⟨s0, s1, s2, s3, s4, s5, s6, s7, s8, s9, s10, s11, s12, s13⟩; go_simp; with_reducible rfl) (h := ?_)
 refine tS_ (bA 57 2814749767106559) 51 (some 94) hHeld (hy := by rintro w' ⟨s0, s1, s2, s3, s4, s5, s6, s7, s8, s9, s10, s11, s12, s13⟩; go_simp; with_reducible rfl) (h := ?_)
 refine tS_ (bA 57 7318349394477055) 52 (some 95) hHeld (hy := by rintro w' ⟨s0, s1, s2, s3, s4, s5, s6, s7, s8, s9, s10, s11, s12, s13⟩; go_simp; with_reducible rfl) (h := ?_)
 refine join_ (σ := Nat × Nat × Nat × Nat) 3 (bA 57 18014398509481983) (fun s => [(92, .slice (some ⟨s.1, 0, none⟩) 2 2), (93, .slice (some ⟨s.2.1, 0, none⟩) 2 s.2.2.1), (96, .slice (some ⟨s.2.2.2, 0, none⟩) 2 2)]) (fun s w' => FJ w w.heap.size (w.heap.size + 1) (w.heap.size + 1 + 1) s w') ?_ ?_
 rotate_left
 ·intro hCont
  refine two_ (i := 49) (j := 53) (Ni := some 92) (Nj := some 96) (bA 57 7881299347898367) (bA 57 16325548649218047) rfl rfl rfl rfl (by kernel_rfl) (by decide) (by decide) (fun K hK => ?_) (fun K hK => ?_)
  ·skip
   refine value_ (w1 := ?_) (v := ?_) (by rfl) rfl ?_ ?_
   rotate_left 2
   ·go_simp
    constructor
    ·rfl
    ·rfl
   refine hK.out _ _ ⟨(blk_cell (HD44.out.step (below_alloc (Below.refl _ _) _)).a 0).trans rfl, (blk_cell (HD44.out.step (below_alloc (Below.refl _ _) _)).a 1).trans rfl, (blk_cell (HD44.out.step (below_alloc (Below.refl _ _) _)).a 2).trans rfl, (blk_cell (HD44.out.step (below_alloc (Below.refl _ _) _)).a 3).trans rfl, (blk_cell (HD44.out.step (below_alloc (Below.refl _ _) _)).a 4).trans rfl, (blk_cell (HD44.out.step (below_alloc (Below.refl _ _) _)).a 5).trans rfl, (blk_cell (HD44.out.step (below_alloc (Below.refl _ _) _)).a 6).trans rfl, (blk_cell (HD44.out.step (below_alloc (Below.refl _ _) _)).b 0).trans rfl, (blk_cell (HD44.out.step (below_alloc (Below.refl _ _) _)).b 1).trans rfl, (blk_cell (HD44.out.step (below_alloc (Below.refl _ _) _)).b 2).trans rfl, (blk_cell (HD44.out.step (below_alloc (Below.refl _ _) _)).b 3).trans rfl, (blk_cell (HD44.out.step (below_alloc (Below.refl _ _) _)).b 4).trans rfl, (blk_cell (HD44.out.step (below_alloc (Below.refl _ _) _)).b 5).trans rfl, (blk_cell (HD44.out.step (below_alloc (Below.refl _ _) _)).b 6).trans rfl⟩ (fun hHeld => ?_)
   clear hK K
   refine norm_ (a' := ?_) ?_ ?_
   rotate_left
   ·show Act.put _ (some 92) _ = _
    simp only [Act.put, List.setIfInBounds_toArray, List.set_cons_zero, List.set_cons_succ, i64_w, i32_w]
    rfl
   refine two_ (i := 50) (j := 53) (Ni := some 93) (Nj := some 96) (bA 57 9007199254740991) (bA 57 16888498602639359) rfl rfl rfl rfl (by kernel_rfl) (by decide) (by decide) (fun K hK => ?_) (fun K hK => ?_)
   ·skip
    refine goes_ Tryz.func24 (by kernel_rfl) rfl #[.slice (some ⟨w44.heap.size, 0, none⟩) 2 2] (by rfl) rfl rfl (by first | (simp only [List.map_toArray, List.map_cons, List.map_nil]; done) | (simp only [List.map_toArray, List.map_cons, List.map_nil]; rfl)) ?_
    with_reducible refine (sort_calls w w.heap.size (w.heap.size + 1) (w.heap.size + 1 + 1) _ ((HD44.out.step (below_alloc (Below.refl _ _) _))) w44.heap.size (row_cells (l := cellsB ++ cellsA w.heap.size) (blk_alloc w44 (.cells #[.int .i64 4, .int .i64 (-1), .int .i64 (-1), .string ⟨#[120, 95, 49]⟩, .bool true, .slice none 0 0, .int .i64 0, .int .i64 2, .int .i64 3000, .int .i64 4100, .string ⟨#[]⟩, .bool false, .slice (some ⟨w.heap.size, 0, none⟩) 2 2, .int .i64 1] 32)))).mono ?_
    rintro e w50 ⟨g9, cp9, rfl, hcp9, hsq9, hb50⟩
    refine ⟨_, rfl, ?_⟩
    refine hK.out _ _ ⟨(blk_cell ((HD44.out.step (below_alloc (Below.refl _ _) _)).step hb50).a 0).trans rfl, (blk_cell ((HD44.out.step (below_alloc (Below.refl _ _) _)).step hb50).a 1).trans rfl, (blk_cell ((HD44.out.step (below_alloc (Below.refl _ _) _)).step hb50).a 2).trans rfl, (blk_cell ((HD44.out.step (below_alloc (Below.refl _ _) _)).step hb50).a 3).trans rfl, (blk_cell ((HD44.out.step (below_alloc (Below.refl _ _) _)).step hb50).a 4).trans rfl, (blk_cell ((HD44.out.step (below_alloc (Below.refl _ _) _)).step hb50).a 5).trans rfl, (blk_cell ((HD44.out.step (below_alloc (Below.refl _ _) _)).step hb50).a 6).trans rfl, (blk_cell ((HD44.out.step (below_alloc (Below.refl _ _) _)).step hb50).b 0).trans rfl, (blk_cell ((HD44.out.step (below_alloc (Below.refl _ _) _)).step hb50).b 1).trans rfl, (blk_cell ((HD44.out.step (below_alloc (Below.refl _ _) _)).step hb50).b 2).trans rfl, (blk_cell ((HD44.out.step (below_alloc (Below.refl _ _) _)).step hb50).b 3).trans rfl, (blk_cell ((HD44.out.step (below_alloc (Below.refl _ _) _)).step hb50).b 4).trans rfl, (blk_cell ((HD44.out.step (below_alloc (Below.refl _ _) _)).step hb50).b 5).trans rfl, (blk_cell ((HD44.out.step (below_alloc (Below.refl _ _) _)).step hb50).b 6).trans rfl⟩ (fun hHeld => ?_)
    clear hK K
    refine norm_ (a' := ?_) ?_ ?_
    rotate_left
    ·show Act.put _ (some 93) _ = _
     simp only [Act.put, List.setIfInBounds_toArray, List.set_cons_zero, List.set_cons_succ, i64_w, i32_w]
     rfl
    refine one_ (i := 53) (N := some 96) (bA 57 18014398509481983) rfl rfl (by kernel_rfl) (by decide) (fun K hK => ?_)
    refine value_ (w1 := ?_) (v := ?_) (by rfl) rfl ?_ ?_
    rotate_left 2
    ·go_simp
     constructor
     ·rfl
     ·rfl
    refine hK.out _ _ ⟨(blk_cell (((HD44.out.step (below_alloc (Below.refl _ _) _)).step hb50).step (below_alloc (Below.refl _ _) _)).a 0).trans rfl, (blk_cell (((HD44.out.step (below_alloc (Below.refl _ _) _)).step hb50).step (below_alloc (Below.refl _ _) _)).a 1).trans rfl, (blk_cell (((HD44.out.step (below_alloc (Below.refl _ _) _)).step hb50).step (below_alloc (Below.refl _ _) _)).a 2).trans rfl, (blk_cell (((HD44.out.step (below_alloc (Below.refl _ _) _)).step hb50).step (below_alloc (Below.refl _ _) _)).a 3).trans rfl, (blk_cell (((HD44.out.step (below_alloc (Below.refl _ _) _)).step hb50).step (below_alloc (Below.refl _ _) _)).a 4).trans rfl, (blk_cell (((HD44.out.step (below_alloc (Below.refl _ _) _)).step hb50).step (below_alloc (Below.refl _ _) _)).a 5).trans rfl, (blk_cell (((HD44.out.step (below_alloc (Below.refl _ _) _)).step hb50).step (below_alloc (Below.refl _ _) _)).a 6).trans rfl, (blk_cell (((HD44.out.step (below_alloc (Below.refl _ _) _)).step hb50).step (below_alloc (Below.refl _ _) _)).b 0).trans rfl, (blk_cell (((HD44.out.step (below_alloc (Below.refl _ _) _)).step hb50).step (below_alloc (Below.refl _ _) _)).b 1).trans rfl, (blk_cell (((HD44.out.step (below_alloc (Below.refl _ _) _)).step hb50).step (below_alloc (Below.refl _ _) _)).b 2).trans rfl, (blk_cell (((HD44.out.step (below_alloc (Below.refl _ _) _)).step hb50).step (below_alloc (Below.refl _ _) _)).b 3).trans rfl, (blk_cell (((HD44.out.step (below_alloc (Below.refl _ _) _)).step hb50).step (below_alloc (Below.refl _ _) _)).b 4).trans rfl, (blk_cell (((HD44.out.step (below_alloc (Below.refl _ _) _)).step hb50).step (below_alloc (Below.refl _ _) _)).b 5).trans rfl, (blk_cell (((HD44.out.step (below_alloc (Below.refl _ _) _)).step hb50).step (below_alloc (Below.refl _ _) _)).b 6).trans rfl⟩ (fun hHeld => ?_)
    clear hK K
    refine norm_ (a' := ?_) ?_ ?_
    rotate_left
    ·show Act.put _ (some 96) _ = _
     simp only [Act.put, List.setIfInBounds_toArray, List.set_cons_zero, List.set_cons_succ, i64_w, i32_w]
     rfl
    exact norm_ (by first | (simp only [putAll, Act.put, List.setIfInBounds_toArray, List.set_cons_zero, List.set_cons_succ]; done) | (simp only [putAll, Act.put, List.setIfInBounds_toArray, List.set_cons_zero, List.set_cons_succ] <;> rfl)) (hCont (w44.heap.size, g9, cp9, w50.heap.size) _ ⟨((HD44.out.step (below_alloc (Below.refl _ _) _)).step hb50).step (below_alloc (Below.refl _ _) _), hsq9.step (below_alloc (Below.refl _ _) _), blk_alloc w50 (.cells #[.int .i64 2, .int .i64 3000, .int .i64 4100, .string ⟨#[]⟩, .bool false, .slice (some ⟨w.heap.size, 0, none⟩) 2 2, .int .i64 1, .int .i64 4, .int .i64 (-1), .int .i64 (-1), .string ⟨#[120, 95, 49]⟩, .bool true, .slice none 0 0, .int .i64 0] 32), hcp9⟩)
   ·skip
    refine value_ (w1 := ?_) (v := ?_) (by rfl) rfl ?_ ?_
    rotate_left 2
    ·go_simp
     constructor
     ·rfl
     ·rfl
    refine hK.out _ _ ⟨(blk_cell ((HD44.out.step (below_alloc (Below.refl _ _) _)).step (below_alloc (Below.refl _ _) _)).a 0).trans rfl, (blk_cell ((HD44.out.step (below_alloc (Below.refl _ _) _)).step (below_alloc (Below.refl _ _) _)).a 1).trans rfl, (blk_cell ((HD44.out.step (below_alloc (Below.refl _ _) _)).step (below_alloc (Below.refl _ _) _)).a 2).trans rfl, (blk_cell ((HD44.out.step (below_alloc (Below.refl _ _) _)).step (below_alloc (Below.refl _ _) _)).a 3).trans rfl, (blk_cell ((HD44.out.step (below_alloc (Below.refl _ _) _)).step (below_alloc (Below.refl _ _) _)).a 4).trans rfl, (blk_cell ((HD44.out.step (below_alloc (Below.refl _ _) _)).step (below_alloc (Below.refl _ _) _)).a 5).trans rfl, (blk_cell ((HD44.out.step (below_alloc (Below.refl _ _) _)).step (below_alloc (Below.refl _ _) _)).a 6).trans rfl, (blk_cell ((HD44.out.step (below_alloc (Below.refl _ _) _)).step (below_alloc (Below.refl _ _) _)).b 0).trans rfl, (blk_cell ((HD44.out.step (below_alloc (Below.refl _ _) _)).step (below_alloc (Below.refl _ _) _)).b 1).trans rfl, (blk_cell ((HD44.out.step (below_alloc (Below.refl _ _) _)).step (below_alloc (Below.refl _ _) _)).b 2).trans rfl, (blk_cell ((HD44.out.step (below_alloc (Below.refl _ _) _)).step (below_alloc (Below.refl _ _) _)).b 3).trans rfl, (blk_cell ((HD44.out.step (below_alloc (Below.refl _ _) _)).step (below_alloc (Below.refl _ _) _)).b 4).trans rfl, (blk_cell ((HD44.out.step (below_alloc (Below.refl _ _) _)).step (below_alloc (Below.refl _ _) _)).b 5).trans rfl, (blk_cell ((HD44.out.step (below_alloc (Below.refl _ _) _)).step (below_alloc (Below.refl _ _) _)).b 6).trans rfl⟩ (fun hHeld => ?_)
    clear hK K
    refine norm_ (a' := ?_) ?_ ?_
    rotate_left
    ·show Act.put _ (some 96) _ = _
     simp only [Act.put, List.setIfInBounds_toArray, List.set_cons_zero, List.set_cons_succ, i64_w, i32_w]
     rfl
    refine one_ (i := 50) (N := some 93) (bA 57 18014398509481983) rfl rfl (by kernel_rfl) (by decide) (fun K hK => ?_)
    refine goes_ Tryz.func24 (by kernel_rfl) rfl #[.slice (some ⟨w44.heap.size, 0, none⟩) 2 2] (by rfl) rfl rfl (by first | (simp only [List.map_toArray, List.map_cons, List.map_nil]; done) | (simp only [List.map_toArray, List.map_cons, List.map_nil]; rfl)) ?_
    with_reducible refine (sort_calls w w.heap.size (w.heap.size + 1) (w.heap.size + 1 + 1) _ (((HD44.out.step (below_alloc (Below.refl _ _) _)).step (below_alloc (Below.refl _ _) _))) w44.heap.size (row_cells (l := cellsB ++ cellsA w.heap.size) (blk_old (blk_alloc w44 (.cells #[.int .i64 4, .int .i64 (-1), .int .i64 (-1), .string ⟨#[120, 95, 49]⟩, .bool true, .slice none 0 0, .int .i64 0, .int .i64 2, .int .i64 3000, .int .i64 4100, .string ⟨#[]⟩, .bool false, .slice (some ⟨w.heap.size, 0, none⟩) 2 2, .int .i64 1] 32)) _))).mono ?_
    rintro e w50 ⟨g9, cp9, rfl, hcp9, hsq9, hb50⟩
    refine ⟨_, rfl, ?_⟩
    refine hK.out _ _ ⟨(blk_cell (((HD44.out.step (below_alloc (Below.refl _ _) _)).step (below_alloc (Below.refl _ _) _)).step hb50).a 0).trans rfl, (blk_cell (((HD44.out.step (below_alloc (Below.refl _ _) _)).step (below_alloc (Below.refl _ _) _)).step hb50).a 1).trans rfl, (blk_cell (((HD44.out.step (below_alloc (Below.refl _ _) _)).step (below_alloc (Below.refl _ _) _)).step hb50).a 2).trans rfl, (blk_cell (((HD44.out.step (below_alloc (Below.refl _ _) _)).step (below_alloc (Below.refl _ _) _)).step hb50).a 3).trans rfl, (blk_cell (((HD44.out.step (below_alloc (Below.refl _ _) _)).step (below_alloc (Below.refl _ _) _)).step hb50).a 4).trans rfl, (blk_cell (((HD44.out.step (below_alloc (Below.refl _ _) _)).step (below_alloc (Below.refl _ _) _)).step hb50).a 5).trans rfl, (blk_cell (((HD44.out.step (below_alloc (Below.refl _ _) _)).step (below_alloc (Below.refl _ _) _)).step hb50).a 6).trans rfl, (blk_cell (((HD44.out.step (below_alloc (Below.refl _ _) _)).step (below_alloc (Below.refl _ _) _)).step hb50).b 0).trans rfl, (blk_cell (((HD44.out.step (below_alloc (Below.refl _ _) _)).step (below_alloc (Below.refl _ _) _)).step hb50).b 1).trans rfl, (blk_cell (((HD44.out.step (below_alloc (Below.refl _ _) _)).step (below_alloc (Below.refl _ _) _)).step hb50).b 2).trans rfl, (blk_cell (((HD44.out.step (below_alloc (Below.refl _ _) _)).step (below_alloc (Below.refl _ _) _)).step hb50).b 3).trans rfl, (blk_cell (((HD44.out.step (below_alloc (Below.refl _ _) _)).step (below_alloc (Below.refl _ _) _)).step hb50).b 4).trans rfl, (blk_cell (((HD44.out.step (below_alloc (Below.refl _ _) _)).step (below_alloc (Below.refl _ _) _)).step hb50).b 5).trans rfl, (blk_cell (((HD44.out.step (below_alloc (Below.refl _ _) _)).step (below_alloc (Below.refl _ _) _)).step hb50).b 6).trans rfl⟩ (fun hHeld => ?_)
    clear hK K
    refine norm_ (a' := ?_) ?_ ?_
    rotate_left
    ·show Act.put _ (some 93) _ = _
     simp only [Act.put, List.setIfInBounds_toArray, List.set_cons_zero, List.set_cons_succ, i64_w, i32_w]
     rfl
    exact norm_ (by first | (simp only [putAll, Act.put, List.setIfInBounds_toArray, List.set_cons_zero, List.set_cons_succ]; done) | (simp only [putAll, Act.put, List.setIfInBounds_toArray, List.set_cons_zero, List.set_cons_succ] <;> rfl)) (hCont (w44.heap.size, g9, cp9, w44.heap.size + 1) _ ⟨((HD44.out.step (below_alloc (Below.refl _ _) _)).step (below_alloc (Below.refl _ _) _)).step hb50, hsq9, (hb50.block _ (blk_lt (blk_next w44 _ (.cells #[.int .i64 2, .int .i64 3000, .int .i64 4100, .string ⟨#[]⟩, .bool false, .slice (some ⟨w.heap.size, 0, none⟩) 2 2, .int .i64 1, .int .i64 4, .int .i64 (-1), .int .i64 (-1), .string ⟨#[120, 95, 49]⟩, .bool true, .slice none 0 0, .int .i64 0] 32)))).trans (blk_next w44 _ (.cells #[.int .i64 2, .int .i64 3000, .int .i64 4100, .string ⟨#[]⟩, .bool false, .slice (some ⟨w.heap.size, 0, none⟩) 2 2, .int .i64 1, .int .i64 4, .int .i64 (-1), .int .i64 (-1), .string ⟨#[120, 95, 49]⟩, .bool true, .slice none 0 0, .int .i64 0] 32)), hcp9⟩)
  ·skip
   refine value_ (w1 := ?_) (v := ?_) (by rfl) rfl ?_ ?_
   rotate_left 2
   ·go_simp
    constructor
    ·rfl
    ·rfl
   refine hK.out _ _ ⟨(blk_cell (HD44.out.step (below_alloc (Below.refl _ _) _)).a 0).trans rfl, (blk_cell (HD44.out.step (below_alloc (Below.refl _ _) _)).a 1).trans rfl, (blk_cell (HD44.out.step (below_alloc (Below.refl _ _) _)).a 2).trans rfl, (blk_cell (HD44.out.step (below_alloc (Below.refl _ _) _)).a 3).trans rfl, (blk_cell (HD44.out.step (below_alloc (Below.refl _ _) _)).a 4).trans rfl, (blk_cell (HD44.out.step (below_alloc (Below.refl _ _) _)).a 5).trans rfl, (blk_cell (HD44.out.step (below_alloc (Below.refl _ _) _)).a 6).trans rfl, (blk_cell (HD44.out.step (below_alloc (Below.refl _ _) _)).b 0).trans rfl, (blk_cell (HD44.out.step (below_alloc (Below.refl _ _) _)).b 1).trans rfl, (blk_cell (HD44.out.step (below_alloc (Below.refl _ _) _)).b 2).trans rfl, (blk_cell (HD44.out.step (below_alloc (Below.refl _ _) _)).b 3).trans rfl, (blk_cell (HD44.out.step (below_alloc (Below.refl _ _) _)).b 4).trans rfl, (blk_cell (HD44.out.step (below_alloc (Below.refl _ _) _)).b 5).trans rfl, (blk_cell (HD44.out.step (below_alloc (Below.refl _ _) _)).b 6).trans rfl⟩ (fun hHeld => ?_)
   clear hK K
   refine norm_ (a' := ?_) ?_ ?_
   rotate_left
   ·show Act.put _ (some 96) _ = _
    simp only [Act.put, List.setIfInBounds_toArray, List.set_cons_zero, List.set_cons_succ, i64_w, i32_w]
    rfl
   refine one_ (i := 49) (N := some 92) (bA 57 16888498602639359) rfl rfl (by kernel_rfl) (by decide) (fun K hK => ?_)
   refine value_ (w1 := ?_) (v := ?_) (by rfl) rfl ?_ ?_
   rotate_left 2
   ·go_simp
    constructor
    ·rfl
    ·rfl
   refine hK.out _ _ ⟨(blk_cell ((HD44.out.step (below_alloc (Below.refl _ _) _)).step (below_alloc (Below.refl _ _) _)).a 0).trans rfl, (blk_cell ((HD44.out.step (below_alloc (Below.refl _ _) _)).step (below_alloc (Below.refl _ _) _)).a 1).trans rfl, (blk_cell ((HD44.out.step (below_alloc (Below.refl _ _) _)).step (below_alloc (Below.refl _ _) _)).a 2).trans rfl, (blk_cell ((HD44.out.step (below_alloc (Below.refl _ _) _)).step (below_alloc (Below.refl _ _) _)).a 3).trans rfl, (blk_cell ((HD44.out.step (below_alloc (Below.refl _ _) _)).step (below_alloc (Below.refl _ _) _)).a 4).trans rfl, (blk_cell ((HD44.out.step (below_alloc (Below.refl _ _) _)).step (below_alloc (Below.refl _ _) _)).a 5).trans rfl, (blk_cell ((HD44.out.step (below_alloc (Below.refl _ _) _)).step (below_alloc (Below.refl _ _) _)).a 6).trans rfl, (blk_cell ((HD44.out.step (below_alloc (Below.refl _ _) _)).step (below_alloc (Below.refl _ _) _)).b 0).trans rfl, (blk_cell ((HD44.out.step (below_alloc (Below.refl _ _) _)).step (below_alloc (Below.refl _ _) _)).b 1).trans rfl, (blk_cell ((HD44.out.step (below_alloc (Below.refl _ _) _)).step (below_alloc (Below.refl _ _) _)).b 2).trans rfl, (blk_cell ((HD44.out.step (below_alloc (Below.refl _ _) _)).step (below_alloc (Below.refl _ _) _)).b 3).trans rfl, (blk_cell ((HD44.out.step (below_alloc (Below.refl _ _) _)).step (below_alloc (Below.refl _ _) _)).b 4).trans rfl, (blk_cell ((HD44.out.step (below_alloc (Below.refl _ _) _)).step (below_alloc (Below.refl _ _) _)).b 5).trans rfl, (blk_cell ((HD44.out.step (below_alloc (Below.refl _ _) _)).step (below_alloc (Below.refl _ _) _)).b 6).trans rfl⟩ (fun hHeld => ?_)
   clear hK K
   refine norm_ (a' := ?_) ?_ ?_
   rotate_left
   ·show Act.put _ (some 92) _ = _
    simp only [Act.put, List.setIfInBounds_toArray, List.set_cons_zero, List.set_cons_succ, i64_w, i32_w]
    rfl
   refine one_ (i := 50) (N := some 93) (bA 57 18014398509481983) rfl rfl (by kernel_rfl) (by decide) (fun K hK => ?_)
   refine goes_ Tryz.func24 (by kernel_rfl) rfl #[.slice (some ⟨(w44.heap.size + 1), 0, none⟩) 2 2] (by rfl) rfl rfl (by first | (simp only [List.map_toArray, List.map_cons, List.map_nil]; done) | (simp only [List.map_toArray, List.map_cons, List.map_nil]; rfl)) ?_
   with_reducible refine (sort_calls w w.heap.size (w.heap.size + 1) (w.heap.size + 1 + 1) _ (((HD44.out.step (below_alloc (Below.refl _ _) _)).step (below_alloc (Below.refl _ _) _))) (w44.heap.size + 1) (row_cells (l := cellsB ++ cellsA w.heap.size) (blk_next w44 _ (.cells #[.int .i64 4, .int .i64 (-1), .int .i64 (-1), .string ⟨#[120, 95, 49]⟩, .bool true, .slice none 0 0, .int .i64 0, .int .i64 2, .int .i64 3000, .int .i64 4100, .string ⟨#[]⟩, .bool false, .slice (some ⟨w.heap.size, 0, none⟩) 2 2, .int .i64 1] 32)))).mono ?_
   rintro e w50 ⟨g9, cp9, rfl, hcp9, hsq9, hb50⟩
   refine ⟨_, rfl, ?_⟩
   refine hK.out _ _ ⟨(blk_cell (((HD44.out.step (below_alloc (Below.refl _ _) _)).step (below_alloc (Below.refl _ _) _)).step hb50).a 0).trans rfl, (blk_cell (((HD44.out.step (below_alloc (Below.refl _ _) _)).step (below_alloc (Below.refl _ _) _)).step hb50).a 1).trans rfl, (blk_cell (((HD44.out.step (below_alloc (Below.refl _ _) _)).step (below_alloc (Below.refl _ _) _)).step hb50).a 2).trans rfl, (blk_cell (((HD44.out.step (below_alloc (Below.refl _ _) _)).step (below_alloc (Below.refl _ _) _)).step hb50).a 3).trans rfl, (blk_cell (((HD44.out.step (below_alloc (Below.refl _ _) _)).step (below_alloc (Below.refl _ _) _)).step hb50).a 4).trans rfl, (blk_cell (((HD44.out.step (below_alloc (Below.refl _ _) _)).step (below_alloc (Below.refl _ _) _)).step hb50).a 5).trans rfl, (blk_cell (((HD44.out.step (below_alloc (Below.refl _ _) _)).step (below_alloc (Below.refl _ _) _)).step hb50).a 6).trans rfl, (blk_cell (((HD44.out.step (below_alloc (Below.refl _ _) _)).step (below_alloc (Below.refl _ _) _)).step hb50).b 0).trans rfl, (blk_cell (((HD44.out.step (below_alloc (Below.refl _ _) _)).step (below_alloc (Below.refl _ _) _)).step hb50).b 1).trans rfl, (blk_cell (((HD44.out.step (below_alloc (Below.refl _ _) _)).step (below_alloc (Below.refl _ _) _)).step hb50).b 2).trans rfl, (blk_cell (((HD44.out.step (below_alloc (Below.refl _ _) _)).step (below_alloc (Below.refl _ _) _)).step hb50).b 3).trans rfl, (blk_cell (((HD44.out.step (below_alloc (Below.refl _ _) _)).step (below_alloc (Below.refl _ _) _)).step hb50).b 4).trans rfl, (blk_cell (((HD44.out.step (below_alloc (Below.refl _ _) _)).step (below_alloc (Below.refl _ _) _)).step hb50).b 5).trans rfl, (blk_cell (((HD44.out.step (below_alloc (Below.refl _ _) _)).step (below_alloc (Below.refl _ _) _)).step hb50).b 6).trans rfl⟩ (fun hHeld => ?_)
   clear hK K
   refine norm_ (a' := ?_) ?_ ?_
   rotate_left
   ·show Act.put _ (some 93) _ = _
    simp only [Act.put, List.setIfInBounds_toArray, List.set_cons_zero, List.set_cons_succ, i64_w, i32_w]
    rfl
   exact norm_ (by first | (simp only [putAll, Act.put, List.setIfInBounds_toArray, List.set_cons_zero, List.set_cons_succ]; done) | (simp only [putAll, Act.put, List.setIfInBounds_toArray, List.set_cons_zero, List.set_cons_succ] <;> rfl)) (hCont (w44.heap.size + 1, g9, cp9, w44.heap.size) _ ⟨((HD44.out.step (below_alloc (Below.refl _ _) _)).step (below_alloc (Below.refl _ _) _)).step hb50, hsq9, (hb50.block _ (blk_lt (blk_old (blk_alloc w44 (.cells #[.int .i64 2, .int .i64 3000, .int .i64 4100, .string ⟨#[]⟩, .bool false, .slice (some ⟨w.heap.size, 0, none⟩) 2 2, .int .i64 1, .int .i64 4, .int .i64 (-1), .int .i64 (-1), .string ⟨#[120, 95, 49]⟩, .bool true, .slice none 0 0, .int .i64 0] 32)) _))).trans (blk_old (blk_alloc w44 (.cells #[.int .i64 2, .int .i64 3000, .int .i64 4100, .string ⟨#[]⟩, .bool false, .slice (some ⟨w.heap.size, 0, none⟩) 2 2, .int .i64 1, .int .i64 4, .int .i64 (-1), .int .i64 (-1), .string ⟨#[120, 95, 49]⟩, .bool true, .slice none 0 0, .int .i64 0] 32)) _), hcp9⟩)
 rintro s9 w9 hJF
 have HJF := Lib.hid hJF
 obtain ⟨hA9, _, _, _⟩ := hJF
 have hHeld : w9.cell? ⟨w.heap.size + 1, 0, none⟩ = some (.int .i64 2) ∧ w9.cell? ⟨w.heap.size + 1, 1, none⟩ = some (.int .i64 3000) ∧ w9.cell? ⟨w.heap.size + 1, 2, none⟩ = some (.int .i64 4100) ∧ w9.cell? ⟨w.heap.size + 1, 3, none⟩ = some (.string ⟨#[]⟩) ∧ w9.cell? ⟨w.heap.size + 1, 4, none⟩ = some (.bool false) ∧ w9.cell? ⟨w.heap.size + 1, 5, none⟩ = some (.slice (some ⟨w.heap.size, 0, none⟩) 2 2) ∧ w9.cell? ⟨w.heap.size + 1, 6, none⟩ = some (.int .i64 1) ∧ w9.cell? ⟨w.heap.size + 1 + 1, 0, none⟩ = some (.int .i64 4) ∧ w9.cell? ⟨w.heap.size + 1 + 1, 1, none⟩ = some (.int .i64 (-1)) ∧ w9.cell? ⟨w.heap.size + 1 + 1, 2, none⟩ = some (.int .i64 (-1)) ∧ w9.cell? ⟨w.heap.size + 1 + 1, 3, none⟩ = some (.string ⟨#[120, 95, 49]⟩) ∧ w9.cell? ⟨w.heap.size + 1 + 1, 4, none⟩ = some (.bool true) ∧ w9.cell? ⟨w.heap.size + 1 + 1, 5, none⟩ = some (.slice none 0 0) ∧ w9.cell? ⟨w.heap.size + 1 + 1, 6, none⟩ = some (.int .i64 0) := ⟨(blk_cell hA9.a 0).trans rfl, (blk_cell hA9.a 1).trans rfl, (blk_cell hA9.a 2).trans rfl, (blk_cell hA9.a 3).trans rfl, (blk_cell hA9.a 4).trans rfl, (blk_cell hA9.a 5).trans rfl, (blk_cell hA9.a 6).trans rfl, (blk_cell hA9.b 0).trans rfl, (blk_cell hA9.b 1).trans rfl, (blk_cell hA9.b 2).trans rfl, (blk_cell hA9.b 3).trans rfl, (blk_cell hA9.b 4).trans rfl, (blk_cell hA9.b 5).trans rfl, (blk_cell hA9.b 6).trans rfl⟩
 clear hA9
 refine norm_ (a' := ?_) ?_ ?_
 rotate_left
 ·simp only [putAll, Act.put, List.setIfInBounds_toArray, List.set_cons_zero, List.set_cons_succ]
  rfl
 refine one_ (i := 54) (N := some 97) (bA 57 36028797018963967) rfl rfl (by kernel_rfl) (by decide) (fun K hK => ?_)
 refine goes_ Tryz.func23 (by kernel_rfl) rfl #[.slice (some ⟨s9.2.1, 0, none⟩) 2 s9.2.2.1, .slice (some ⟨s9.2.2.2, 0, none⟩) 2 2] (by rfl) rfl rfl (by simp only [List.map_toArray, List.map_cons, List.map_nil]; rfl) ?_
 with_reducible refine (HSN.out _ _ _ _ HJF.out.a HJF.out.q HJF.out.r HJF.out.c).mono ?_
 rintro e w54 ⟨rfl, hb54⟩
 refine ⟨_, rfl, ?_⟩
 have HD54 := Lib.hid (HJF.out.a.step hb54)
 clear hb54
 refine hK.out _ _ ⟨(blk_cell HD54.out.a 0).trans rfl, (blk_cell HD54.out.a 1).trans rfl, (blk_cell HD54.out.a 2).trans rfl, (blk_cell HD54.out.a 3).trans rfl, (blk_cell HD54.out.a 4).trans rfl, (blk_cell HD54.out.a 5).trans rfl, (blk_cell HD54.out.a 6).trans rfl, (blk_cell HD54.out.b 0).trans rfl, (blk_cell HD54.out.b 1).trans rfl, (blk_cell HD54.out.b 2).trans rfl, (blk_cell HD54.out.b 3).trans rfl, (blk_cell HD54.out.b 4).trans rfl, (blk_cell HD54.out.b 5).trans rfl, (blk_cell HD54.out.b 6).trans rfl⟩ (fun hHeld => ?_)
 clear hK K
 refine norm_ (a' := ?_) ?_ ?_
 rotate_left
 ·show Act.put _ (some 97) _ = _
  simp only [Act.put, List.setIfInBounds_toArray, List.set_cons_zero, List.set_cons_succ, i64_w, i32_w]
  rfl
 refine pS_ (bA 57 72057594037927935) 55 (some 98) (h := ?_)
 refine pS_ (bA 57 144115188075855871) 56 (some 0) (h := ?_)
 refine done_ (by kernel_rfl) ?_
 go_wp2
 go_ret
 exact ⟨rfl, HD54.out.bel⟩
def caesuralaw27_alive.f : Option Bool := some true
theorem caesuralaw27_alive.calls (r : Bool) (w : World) (hG : GOK w) (h : caesuralaw27_alive.f = some r) : Calls Tryz.prog 9 #[] w fun e w' => e = .returned (.bool r) ∧ Below w.heap.size w w' := by
 cases h
 exact alive_calls w hG
end Go.Proofs.YtlenlhnpmblicaaGreatDoor.XA
end
section
set_option linter.unusedVariables false
set_option linter.unusedSimpArgs false
namespace Go.Proofs.YtlenlhnpmblicaaGreatDoor.XA
set_option linter.unusedSimpArgs false
set_option linter.unusedVariables false
open Go.RowKit
open Go.Proofs.YtlenlhnpmblicaaGreatDoorW.PrintWords Go.Proofs.YtlenlhnpmblicaaGreatDoorW.PrintLast Go.Proofs.YtlenlhnpmblicaaGreatDoorW.PrintMore
abbrev dC (k i j : Int) (s : ByteArray) (b : Bool) (A : Option Addr) (n c : Nat) (p : Int) : Array Value := #[.int .i64 k, .int .i64 i, .int .i64 j, .string s, .bool b, .slice A n c, .int .i64 p]
structure ZW (w : World) (m : List (Nat × Array Value)) (W : World) : Prop where
 bel : Below w.heap.size w W
 blk : ∀ q ∈ m, W.heap[q.1]? = some (.cells q.2 32 (0, 0)) ∧ w.heap.size ≤ q.1
 nd : (m.map (·.1)).Nodup
theorem ZW.step {w W W' : World} {m : List (Nat × Array Value)} (h : ZW w m W) (hb : Below W.heap.size W W') : ZW w m W' :=
 ⟨h.bel.trans (hb.mono h.bel.size), fun q hq => ⟨(hb.block _ (blk_lt (h.blk q hq).1)).trans (h.blk q hq).1, (h.blk q hq).2⟩, h.nd⟩
theorem ZW.get {w W : World} (m1 m2 : List (Nat × Array Value)) {b : Nat} {cs : Array Value} (h : ZW w (m1 ++ (b, cs) :: m2) W) : W.heap[b]? = some (.cells cs 32 (0, 0)) :=
 (h.blk (b, cs) (by simp)).1
theorem ZW.hd {w W : World} {m : List (Nat × Array Value)} {b : Nat} {cs : Array Value} (h : ZW w ((b, cs) :: m) W) : W.heap[b]? = some (.cells cs 32 (0, 0)) := ZW.get [] m h
theorem ZW.held {w W : World} {m : List (Nat × Array Value)} {b : Nat} {k i j : Int} {s : ByteArray} {x : Bool} {A : Option Addr} {n c : Nat} {p : Int} (h : ZW w ((b, dC k i j s x A n c p) :: m) W) :
  W.cell? ⟨b, 0, none⟩ = some (.int .i64 k) ∧ W.cell? ⟨b, 1, none⟩ = some (.int .i64 i) ∧ W.cell? ⟨b, 2, none⟩ = some (.int .i64 j) ∧ W.cell? ⟨b, 3, none⟩ = some (.string s) ∧ W.cell? ⟨b, 4, none⟩ = some (.bool x) ∧ W.cell? ⟨b, 5, none⟩ = some (.slice A n c) ∧ W.cell? ⟨b, 6, none⟩ = some (.int .i64 p) :=
 ⟨(blk_cell h.hd 0).trans rfl, (blk_cell h.hd 1).trans rfl, (blk_cell h.hd 2).trans rfl, (blk_cell h.hd 3).trans rfl, (blk_cell h.hd 4).trans rfl, (blk_cell h.hd 5).trans rfl, (blk_cell h.hd 6).trans rfl⟩
theorem ZW.add {w W W' : World} (m1 m2 : List (Nat × Array Value)) {b : Nat} {cs : Array Value} (h : ZW w (m1 ++ m2) W) (hb : W'.heap[b]? = some (.cells cs 32 (0, 0))) (e : b = W.heap.size) (bel : Below W.heap.size W W') : ZW w (m1 ++ (b, cs) :: m2) W' := by
 have h' := h.step bel
 have hlt : ∀ q ∈ m1 ++ m2, q.1 ≠ b := fun q hq he => by
  have := blk_lt (h.blk q hq).1
  omega
 refine ⟨h'.bel, fun q hq => ?_, ?_⟩
 ·rcases List.mem_append.1 hq with h1 | h1
  ·exact h'.blk q (List.mem_append_left _ h1)
  ·rcases List.mem_cons.1 h1 with rfl | h1
   ·exact ⟨hb, by rw [e]; exact h.bel.size⟩
   ·exact h'.blk q (List.mem_append_right _ h1)
 ·have hn := h.nd
  rw [List.map_append] at hn ⊢
  rw [List.map_cons]
  obtain ⟨n1, n2, n3⟩ := List.nodup_append.1 hn
  refine List.nodup_append.2 ⟨n1, List.nodup_cons.2 ⟨fun hm => ?_, n2⟩, fun a ha x hx => ?_⟩
  ·obtain ⟨q, hq, he⟩ := List.mem_map.1 hm
   exact hlt q (List.mem_append_right _ hq) he
  ·rcases List.mem_cons.1 hx with rfl | hx
   ·obtain ⟨q, hq, he⟩ := List.mem_map.1 ha
    rw [← he]
    exact hlt q (List.mem_append_left _ hq)
   ·exact n3 a ha x hx
theorem ZW.far {w W : World} {m1 m2 : List (Nat × Array Value)} {b : Nat} {cs : Array Value} (h : ZW w (m1 ++ (b, cs) :: m2) W) (q : Nat × Array Value) (hq : q ∈ m1 ∨ q ∈ m2) : q.1 ≠ b := by
 have hn := h.nd
 rw [List.map_append, List.map_cons] at hn
 obtain ⟨n1, n2, n3⟩ := List.nodup_append.1 hn
 rcases hq with hq | hq
 ·exact n3 q.1 (List.mem_map.2 ⟨q, hq, rfl⟩) b (by simp)
 ·exact fun he => (List.nodup_cons.1 n2).1 (List.mem_map.2 ⟨q, hq, he⟩)
theorem ZW.write {w W W' : World} (m1 m2 : List (Nat × Array Value)) {b : Nat} {cs cs' : Array Value} (h : ZW w (m1 ++ (b, cs) :: m2) W) (hb : W'.heap[b]? = some (.cells cs' 32 (0, 0))) (hf : ∀ k, k ≠ b → W'.heap[k]? = W.heap[k]?) (bel : Below w.heap.size w W') : ZW w (m1 ++ (b, cs') :: m2) W' := by
 refine ⟨bel, fun q hq => ?_, ?_⟩
 ·rcases List.mem_append.1 hq with h1 | h1
  ·exact ⟨(hf _ (h.far q (.inl h1))).trans (h.blk q (List.mem_append_left _ h1)).1, (h.blk q (List.mem_append_left _ h1)).2⟩
  ·rcases List.mem_cons.1 h1 with rfl | h1
   ·exact ⟨hb, (h.blk (b, cs) (by simp)).2⟩
   ·have hm : q ∈ m1 ++ (b, cs) :: m2 := List.mem_append_right _ (List.mem_cons_of_mem _ h1)
    exact ⟨(hf _ (h.far q (.inr h1))).trans (h.blk q hm).1, (h.blk q hm).2⟩
 ·have hn := h.nd
  rw [List.map_append, List.map_cons] at hn ⊢
  exact hn
theorem ZW.put {w W : World} (m1 m2 : List (Nat × Array Value)) {b : Nat} {cs : Array Value} (i : Nat) (v : Value) (h : ZW w (m1 ++ (b, cs) :: m2) W) : ZW w (m1 ++ (b, cs.setIfInBounds i v) :: m2) (W.setCell ⟨b, i, none⟩ v) :=
 h.write m1 m2 (blk_set (h.get m1 m2) i v) (fun k hk => Below.heap_setCell W ⟨b, i, none⟩ v k hk) (below_set h.bel (h.blk (b, cs) (by simp)).2)
theorem below_cells {w : World} {b : Nat} (hb : w.heap.size ≤ b) : ∀ (vs : List Value) (o : Nat) (W : World), Below w.heap.size w W → Below w.heap.size w (W.setCells b o vs)
 | [], _, _, h => h
 | v :: r, o, W, h => below_cells hb r (o + 1) _ (below_set h hb)
theorem ZW.row {w W : World} (m1 m2 : List (Nat × Array Value)) {b : Nat} {cs : Array Value} (vs : List Value) (h : ZW w (m1 ++ (b, cs) :: m2) W) (hl : vs.length = cs.size) : ZW w (m1 ++ (b, vs.toArray) :: m2) (W.setCells b 0 vs) := by
 obtain ⟨cur, h1, h2, h3⟩ := setCells_row vs 0 W cs (h.get m1 m2) (by omega)
 have e : cur = vs.toArray := by
  apply Array.toList_inj.1
  rw [h3, List.take_zero, List.nil_append, Nat.zero_add, List.drop_eq_nil_of_le (by rw [Array.length_toList]; omega), List.append_nil]
 exact h.write m1 m2 (e ▸ h1) (fun k hk => setCells_far vs 0 k hk) (below_cells (h.blk (b, cs) (by simp)).2 vs 0 W h.bel)
theorem ZW.one {w W : World} {cs : Array Value} (hb : W.heap[w.heap.size]? = some (.cells cs 32 (0, 0))) (bel : Below w.heap.size w W) : ZW w [(w.heap.size, cs)] W :=
 ⟨bel, fun q hq => by obtain rfl := List.mem_singleton.1 hq; exact ⟨hb, Nat.le_refl _⟩, by simp⟩
end Go.Proofs.YtlenlhnpmblicaaGreatDoor.XA
end
section
set_option linter.unusedVariables false
set_option linter.unusedSimpArgs false
namespace Go.Proofs.YtlenlhnpmblicaaGreatDoor.NB
set_option linter.unusedSimpArgs false
set_option linter.unusedVariables false
open Go.RowKit Go.Proofs.YtlenlhnpmblicaaGreatDoor.XA
open Go.Proofs.YtlenlhnpmblicaaGreatDoorW.PrintWords Go.Proofs.YtlenlhnpmblicaaGreatDoorW.PrintLast Go.Proofs.YtlenlhnpmblicaaGreatDoorW.PrintMore
set_option maxRecDepth 100000 in
set_option maxHeartbeats 16000000 in
theorem refRight_calls (dk di dj : Int) (dn : ByteArray) (da : Bool) (A : Option Addr) (c : Nat) (l : List Int) (dp : Int) (w : World) (hc : l.length ≤ c) (hC : Kd.C (Kd.int .i64) w A l.length l) :
    Calls Tryz.prog 16 #[.agg #[.int .i64 dk, .int .i64 di, .int .i64 dj, .string dn, .bool da, .slice A l.length c, .int .i64 dp]] w fun e w' => e = .returned (.bool (rightB dk di dj dn l dp)) ∧ Below w.heap.size w w' := by
  have hT := Tryz.underlying32
  have hT3 := Tryz.underlying30
  obtain ⟨n, hn⟩ : ∃ n, l.length = n := ⟨_, rfl⟩
  have HW : Hid (∀ W, Calls Tryz.prog 20 #[.int .i64 dk] W fun e w' => e = .returned (.string (kindW dk)) ∧ Below W.heap.size W w') := Lib.hid (fun W => caesuraref27_Word.calls dk _ W (refWord_f dk))
  have HNU : Hid (∀ W, Calls Tryz.prog 36 #[.int .i64 dk] W fun e w' => e = .returned (.bool (kindR dk)) ∧ Below W.heap.size W w') := Lib.hid (fun W => (caesuraref27_numbered.calls dk _ W (refNumbered_f dk)).mono fun e w' h => ⟨h.1, h.2.below⟩)
  have HNA : Hid (∀ W, Calls Tryz.prog 37 #[.int .i64 dk] W fun e w' => e = .returned (.bool (kindN dk)) ∧ Below W.heap.size W w') := Lib.hid (fun W => (caesuraref27_named.calls dk _ W (refNamed_f dk)).mono fun e w' h => ⟨h.1, h.2.below⟩)
  have HSH : Hid (∀ W, Calls Tryz.prog 39 #[.int .i64 dk] W fun e w' => e = .returned (.bool (kindT dk)) ∧ Below W.heap.size W w') := Lib.hid (fun W => (caesuraref27_shown.calls dk _ W (refShown_f dk)).mono fun e w' h => ⟨h.1, h.2.below⟩)
  have HNM : Hid (∀ W, Calls Tryz.prog 38 #[.string dn] W fun e w' => e = .returned (.bool (namedB dn)) ∧ Below W.heap.size W w') := Lib.hid (fun W => (caesuraref07_Name.calls 20 dn _ W (refName_f dn)).mono fun e w' h => ⟨h.1, h.2.below⟩)
  have H0 := Lib.hid (ZW.one (w := w) (W := w.alloc (.cells (dC dk di dj dn da A n c dp) 32)) (blk_new w _) (below_alloc (Below.refl _ _) _))
  have hRB := right_doc dk di dj dn l dp
  have HL := Lib.hid hC
  have hm : l.length ≤ 9223372036854775807 := hC.2.1
  clear hC
  rw [hn] at hRB HL hm ⊢
  obtain ⟨RB, hRB'⟩ : ∃ b, rightB dk di dj dn l dp = b := ⟨_, rfl⟩
  rw [hRB'] at hRB ⊢
  obtain ⟨q0, hq0⟩ : ∃ q, (kindW dk).toList.isEmpty = q := ⟨_, rfl⟩
  obtain ⟨q1, hq1⟩ : ∃ q, (kindR dk == (di != -1)) = q := ⟨_, rfl⟩
  obtain ⟨q2, hq2⟩ : ∃ q, ((dk == 2) == (dj != -1)) = q := ⟨_, rfl⟩
  obtain ⟨q3, hq3⟩ : ∃ q, (kindN dk == !dn.toList.isEmpty) = q := ⟨_, rfl⟩
  obtain ⟨q4, hq4⟩ : ∃ q, decide (di < -1) = q := ⟨_, rfl⟩
  obtain ⟨q5, hq5⟩ : ∃ q, decide (999999 < di) = q := ⟨_, rfl⟩
  obtain ⟨q6, hq6⟩ : ∃ q, decide (dj < -1) = q := ⟨_, rfl⟩
  obtain ⟨q7, hq7⟩ : ∃ q, decide (999999 < dj) = q := ⟨_, rfl⟩
  obtain ⟨p1, hp1⟩ : ∃ q, (dj != -1) = q := ⟨_, rfl⟩
  obtain ⟨p2, hp2⟩ : ∃ q, decide (dj ≤ di) = q := ⟨_, rfl⟩
  rw [hq0, hq1, hq2, hq3, hq4, hq5, hq6, hq7] at hRB
  rw [hp1] at hRB hq2
  rw [hp2] at hRB
  have HRB := Lib.hid hRB
  have HP1 := Lib.hid hp1
  have HP2 := Lib.hid hp2
  clear hRB hRB' hp2
  have hb : ∀ b : Bool, b = true ∨ b = false := fun b => by cases b <;> simp
  go_enter Tryz.func16, Tryz.ntmps16
  try simp only [List.append_eq, List.cons_append, List.nil_append]
  go_upto_region 1 with fail
  generalize w.alloc (.cells #[.int .i64 dk, .int .i64 di, .int .i64 dj, .string dn, .bool da, .slice A n c, .int .i64 dp] 32) = w1 at H0 ⊢
  have HD : Hid (ZW w [(w.heap.size, dC dk di dj dn da A n c dp)] w1.drew) := Lib.hid (H0.out.step (Below.refl _ _).drew)
  clear H0
  generalize kindR dk = kr at *
  generalize kindN dk = kn at *
  generalize kindW dk = kw at *
  generalize namedB dn = nm at *
  generalize kindT dk = kt at *
  rw [← HP1.out] at hq2
  clear hp1
  go_cut [55] (fun v wc => v = .bool (q0 || !q1 || !q2 || !q3 || q4 || q5 || q6 || q7) ∧ ZW w [(w.heap.size, dC dk di dj dn da A n c dp)] wc)
  case first =>
   refine rs_ (S := fun W => ZW w [(w.heap.size, dC dk di dj dn da A n c dp)] W) [0, 1, 2, 3, 4, 5, 8, 6, 9, 10, 7, 11, 12, 13, 14, 17, 15, 16, 18, 19, 20, 21, 22, 23, 26, 24, 27, 28, 25, 29, 30, 31, 32, 33, 34, 35, 36, 37, 38, 39, 40, 41, 42, 43, 44, 45, 46, 47, 48, 49, 50] HD.out fun hHeld => ?_
   clear HD
   iterate 5 (first
     | refine ro_ ?_ | refine rp_ ?_
     | refine rt_ hHeld ?_ (hy := by intro w' h; obtain ⟨s0, s1, s2, s3, s4, s5, s6⟩ := h.held; go_simp; with_reducible rfl)
     | (first | refine rc_ #[.int .i64 dk] ((HW.out _).mono ?_) | refine rc_ #[.int .i64 dk] ((HNU.out _).mono ?_) | refine rc_ #[.int .i64 dk] ((HNA.out _).mono ?_)
        rintro e wq ⟨rfl, hbq⟩
        refine rk_ (hHeld.step hbq) fun h_ => ?_
        clear hbq hHeld
        have hHeld := h_
        clear h_))
   rcases hb q0 with rfl | rfl
   · repeat (first | refine ro_ ?_ | refine rp_ ?_)
     refine rd_ ?_
     have HD := Lib.hid hHeld
     go_wp2
     go_meet
     case rel => exact ⟨rfl, HD.out⟩
   iterate 9 (first
     | refine ro_ ?_ | refine rp_ ?_
     | refine rt_ hHeld ?_ (hy := by intro w' h; obtain ⟨s0, s1, s2, s3, s4, s5, s6⟩ := h.held; go_simp; with_reducible rfl)
     | (first | refine rc_ #[.int .i64 dk] ((HNU.out _).mono ?_) | refine rc_ #[.int .i64 dk] ((HNA.out _).mono ?_)
        rintro e wq ⟨rfl, hbq⟩
        refine rk_ (hHeld.step hbq) fun h_ => ?_
        clear hbq hHeld
        have hHeld := h_
        clear h_))
   rcases hb q1 with rfl | rfl
   rotate_left
   · repeat (first | refine ro_ ?_ | refine rp_ ?_)
     refine rd_ ?_
     have HD := Lib.hid hHeld
     go_wp2
     go_meet
     case rel => exact ⟨rfl, HD.out⟩
   iterate 9 (first
     | refine ro_ ?_ | refine rp_ ?_
     | refine rt_ hHeld ?_ (hy := by intro w' h; obtain ⟨s0, s1, s2, s3, s4, s5, s6⟩ := h.held; go_simp; with_reducible rfl)
     | (first | refine rc_ #[.int .i64 dk] ((HNU.out _).mono ?_) | refine rc_ #[.int .i64 dk] ((HNA.out _).mono ?_)
        rintro e wq ⟨rfl, hbq⟩
        refine rk_ (hHeld.step hbq) fun h_ => ?_
        clear hbq hHeld
        have hHeld := h_
        clear h_))
   rcases hb q2 with rfl | rfl
   rotate_left
   · repeat (first | refine ro_ ?_ | refine rp_ ?_)
     refine rd_ ?_
     have HD := Lib.hid hHeld
     go_wp2
     go_meet
     case rel => exact ⟨rfl, HD.out⟩
   iterate 9 (first
     | refine ro_ ?_ | refine rp_ ?_
     | refine rt_ hHeld ?_ (hy := by intro w' h; obtain ⟨s0, s1, s2, s3, s4, s5, s6⟩ := h.held; go_simp; with_reducible rfl)
     | (first | refine rc_ #[.int .i64 dk] ((HNU.out _).mono ?_) | refine rc_ #[.int .i64 dk] ((HNA.out _).mono ?_)
        rintro e wq ⟨rfl, hbq⟩
        refine rk_ (hHeld.step hbq) fun h_ => ?_
        clear hbq hHeld
        have hHeld := h_
        clear h_))
   rcases hb q3 with rfl | rfl
   rotate_left
   · repeat (first | refine ro_ ?_ | refine rp_ ?_)
     refine rd_ ?_
     have HD := Lib.hid hHeld
     go_wp2
     go_meet
     case rel => exact ⟨rfl, HD.out⟩
   iterate 5 (first
     | refine ro_ ?_ | refine rp_ ?_
     | refine rt_ hHeld ?_ (hy := by intro w' h; obtain ⟨s0, s1, s2, s3, s4, s5, s6⟩ := h.held; go_simp; with_reducible rfl)
     | (first | refine rc_ #[.int .i64 dk] ((HNU.out _).mono ?_) | refine rc_ #[.int .i64 dk] ((HNA.out _).mono ?_)
        rintro e wq ⟨rfl, hbq⟩
        refine rk_ (hHeld.step hbq) fun h_ => ?_
        clear hbq hHeld
        have hHeld := h_
        clear h_))
   rcases hb q4 with rfl | rfl
   · repeat (first | refine ro_ ?_ | refine rp_ ?_)
     refine rd_ ?_
     have HD := Lib.hid hHeld
     go_wp2
     go_meet
     case rel => exact ⟨rfl, HD.out⟩
   iterate 5 (first
     | refine ro_ ?_ | refine rp_ ?_
     | refine rt_ hHeld ?_ (hy := by intro w' h; obtain ⟨s0, s1, s2, s3, s4, s5, s6⟩ := h.held; go_simp; with_reducible rfl)
     | (first | refine rc_ #[.int .i64 dk] ((HNU.out _).mono ?_) | refine rc_ #[.int .i64 dk] ((HNA.out _).mono ?_)
        rintro e wq ⟨rfl, hbq⟩
        refine rk_ (hHeld.step hbq) fun h_ => ?_
        clear hbq hHeld
        have hHeld := h_
        clear h_))
   rcases hb q5 with rfl | rfl
   · repeat (first | refine ro_ ?_ | refine rp_ ?_)
     refine rd_ ?_
     have HD := Lib.hid hHeld
     go_wp2
     go_meet
     case rel => exact ⟨rfl, HD.out⟩
   iterate 5 (first
     | refine ro_ ?_ | refine rp_ ?_
     | refine rt_ hHeld ?_ (hy := by intro w' h; obtain ⟨s0, s1, s2, s3, s4, s5, s6⟩ := h.held; go_simp; with_reducible rfl)
     | (first | refine rc_ #[.int .i64 dk] ((HNU.out _).mono ?_) | refine rc_ #[.int .i64 dk] ((HNA.out _).mono ?_)
        rintro e wq ⟨rfl, hbq⟩
        refine rk_ (hHeld.step hbq) fun h_ => ?_
        clear hbq hHeld
        have hHeld := h_
        clear h_))
   rcases hb q6 with rfl | rfl
   · repeat (first | refine ro_ ?_ | refine rp_ ?_)
     refine rd_ ?_
     have HD := Lib.hid hHeld
     go_wp2
     go_meet
     case rel => exact ⟨rfl, HD.out⟩
   rcases hb q7 with rfl | rfl
   all_goals (
     iterate 4 (first
       | refine ro_ ?_ | refine rp_ ?_
       | refine rt_ hHeld ?_ (hy := by intro w' h; obtain ⟨s0, s1, s2, s3, s4, s5, s6⟩ := h.held; go_simp; with_reducible rfl)
       | (first | refine rc_ #[.int .i64 dk] ((HNU.out _).mono ?_) | refine rc_ #[.int .i64 dk] ((HNA.out _).mono ?_)
          rintro e wq ⟨rfl, hbq⟩
          refine rk_ (hHeld.step hbq) fun h_ => ?_
          clear hbq hHeld
          have hHeld := h_
          clear h_))
     refine rd_ ?_
     have HD := Lib.hid hHeld
     go_wp2
     go_meet
     case rel => exact ⟨rfl, HD.out⟩)
  case rest =>
  clear HD HW HNU hq0 hq1 hq2 hq3 hq4 hq5 hq6 hq7
  obtain ⟨rfl, hZ⟩ := hcut
  have HD := Lib.hid hZ
  clear hZ
  generalize (q0 || !q1 || !q2 || !q3 || q4 || q5 || q6 || q7) = Q1 at HRB ⊢
  cases Q1 with
  | true =>
    go_wp2
    go_ret
    exact ⟨by rw [HRB.out]; rfl, HD.out.bel⟩
  | false =>
  go_upto_region 3 with fail
  generalize wc = w2 at HD ⊢
  have hp1 := HP1.out
  have hp2 := HP2.out
  go_cut [76] (fun v wc => v = .bool (p1 && p2 || kn && !nm) ∧ ZW w [(w.heap.size, dC dk di dj dn da A n c dp)] wc)
  case first =>
   clear HRB HP1 HP2
   obtain ⟨z0, z1, z2, z3, z4, z5, z6⟩ := HD.out.held
   rcases hb p1 with rfl | rfl
   rcases hb p2 with rfl | rfl
   · go_wp2
     go_meet
     case rel => exact ⟨rfl, HD.out⟩
   all_goals
    go_wp2_with (go_at_call 37; refine (HNA.out _).mono ?_)
    first | (rintro e wq rfl hbq) | (rintro e wq ⟨rfl, hbq⟩)
    have HE := Lib.hid (HD.out.step hbq)
    clear hbq HD z0 z1 z2 z3 z4 z5 z6
    try dsimp only
    cases kn with
    | false =>
     go_wp2
     go_meet
     case rel => exact ⟨rfl, HE.out⟩
    | true =>
     obtain ⟨z0, z1, z2, z3, z4, z5, z6⟩ := HE.out.held
     go_wp2_with (go_at_call 38; refine (HNM.out _).mono ?_)
     first | (rintro e wr rfl hbr) | (rintro e wr ⟨rfl, hbr⟩)
     have HF := Lib.hid (HE.out.step hbr)
     clear hbr HE z0 z1 z2 z3 z4 z5 z6
     try dsimp only
     go_wp2
     go_meet
     case rel => exact ⟨by first | rfl | simp, HF.out⟩
  case rest =>
  clear HD HNA HNM hp1 hp2 HP1 HP2
  obtain ⟨rfl, hZ⟩ := hcut
  have HD := Lib.hid hZ
  clear hZ
  generalize wc = w3 at HD ⊢
  generalize (p1 && p2 || kn && !nm) = Q2 at HRB ⊢
  cases Q2 with
  | true =>
    go_wp2
    go_ret
    exact ⟨by rw [HRB.out]; rfl, HD.out.bel⟩
  | false =>
  have z0 := HD.out.held.1
  have z5 := HD.out.held.2.2.2.2.2.1
  go_wp2_with (go_at_call 39; refine (HSH.out _).mono ?_)
  first | (rintro e w4 rfl hb4) | (rintro e w4 ⟨rfl, hb4⟩)
  have HE := Lib.hid (HD.out.step hb4)
  clear hb4 z0 z5 HD HSH
  try dsimp only
  have z5 := HE.out.held.2.2.2.2.2.1
  have z6 := HE.out.held.2.2.2.2.2.2
  cases kt with
  | false =>
    obtain ⟨m1, hm1⟩ : ∃ q, ((n : Int) == 0) = q := ⟨_, rfl⟩
    obtain ⟨m2, hm2⟩ : ∃ q, (dp == 0) = q := ⟨_, rfl⟩
    have HR2 : Hid (RB = (m1 && m2)) := Lib.hid (by rw [HRB.out, ← hm1, ← hm2]; rfl)
    clear HRB
    cases m1 <;> cases m2 <;> (go_wp2; go_ret; exact ⟨by rw [HR2.out]; rfl, HE.out.bel⟩)
  | true =>
  have HL2 := HL.out
  obtain ⟨z, hz⟩ : ∃ z, l.any oddB = z := ⟨_, rfl⟩
  have HR2 : Hid (RB = (!z && (decide (2 ≤ (n : Int)) && decide ((n : Int) ≤ 60) && decide (1 ≤ dp) && decide (dp < (n : Int))))) := Lib.hid (by rw [HRB.out, ← hz]; rfl)
  have HZ : Hid ((l.drop 0).any oddB = z) := Lib.hid hz
  have HN := Lib.hid hn
  clear HRB z5 z6 hz hn HL2 hc
  go_wp2_with fail
  go_loopg [4] n (fun j v4 wr => ∃ i : Nat, v4 = .int .i64 (i : Int) ∧ i + j = n ∧ Hid ((l.drop i).any oddB = z) ∧ Hid (ZW w [(w.heap.size, dC dk di dj dn da A n c dp)] wr))
  case atStart => exact ⟨0, rfl, by omega, HZ, HE⟩
  case round =>
    clear HZ HE
    obtain ⟨i, rfl, hij, HZ, HE⟩ := hrel
    have z5 := HE.out.held.2.2.2.2.2.1
    have z6 := HE.out.held.2.2.2.2.2.2
    by_cases hi : i < n
    rotate_left
    · have hz2 := HZ.out
      rw [List.drop_of_length_le (by have := HN.out; omega)] at hz2
      have hz3 : z = false := hz2.symm
      obtain ⟨m1, hm1⟩ : ∃ q, decide (2 ≤ (n : Int)) = q := ⟨_, rfl⟩
      obtain ⟨m2, hm2⟩ : ∃ q, decide ((n : Int) ≤ 60) = q := ⟨_, rfl⟩
      obtain ⟨m3, hm3⟩ : ∃ q, decide (1 ≤ dp) = q := ⟨_, rfl⟩
      obtain ⟨m4, hm4⟩ : ∃ q, decide (dp < (n : Int)) = q := ⟨_, rfl⟩
      have HR3 : Hid (RB = (m1 && m2 && m3 && m4)) := Lib.hid (by rw [HR2.out, hz3, hm1, hm2, hm3, hm4]; rfl)
      have p1 : ((i : Int) < (n : Int)) = False := eq_false (by omega)
      clear hz2 HZ hz3 HR2 HN
      rcases hb m1 with rfl | rfl
      rcases hb m2 with rfl | rfl
      rcases hb m3 with rfl | rfl
      rcases hb m4 with rfl | rfl
      all_goals (go_wp2; go_ret; exact ⟨by rw [HR3.out]; rfl, HE.out.bel⟩)
    · obtain ⟨ad, rfl, hx⟩ := Kd.at_int (Kd.C_below HL.out HE.out.bel) (i : Int) (by omega) (by omega)
      rw [Int.toNat_natCast] at hx
      have hz2 := HZ.out
      rw [List.drop_eq_getElem_cons (by have := HN.out; omega), List.any_cons] at hz2
      have he : rd l (i : Int) = l[i]'(by have := HN.out; omega) := by simp [rd, HN.out, hi]
      rw [← he] at hz2
      generalize rd l (i : Int) = x at *
      unfold oddB at hz2
      obtain ⟨m1, hm1⟩ : ∃ q, decide (x < 0) = q := ⟨_, rfl⟩
      obtain ⟨m2, hm2⟩ : ∃ q, decide (1114111 < x) = q := ⟨_, rfl⟩
      rw [hm1, hm2] at hz2
      have HZ2 := Lib.hid hz2
      clear hz2 HZ he
      rcases hb m1 with rfl | rfl
      · have HR3 : Hid (RB = false) := Lib.hid (by rw [HR2.out, ← HZ2.out]; rfl)
        clear HR2 HZ2 HN
        go_wp2
        go_ret
        exact ⟨by rw [HR3.out]; rfl, HE.out.bel⟩
      · rcases hb m2 with rfl | rfl
        · have HR3 : Hid (RB = false) := Lib.hid (by rw [HR2.out, ← HZ2.out]; rfl)
          clear HR2 HZ2 HN
          go_wp2
          go_ret
          exact ⟨by rw [HR3.out]; rfl, HE.out.bel⟩
        · have HZ3 : Hid ((l.drop (i + 1)).any oddB = z) := Lib.hid HZ2.out
          clear HZ2
          go_wp2
          go_roundg (n - (i + 1))
          case measure => omega
          case rel => exact ⟨i + 1, by go_num, by omega, HZ3, HE⟩
end Go.Proofs.YtlenlhnpmblicaaGreatDoor.NB
namespace Go.Proofs.YtlenlhnpmblicaaGreatDoor.XA
set_option linter.unusedVariables false
open Go.RowKit
open Go.Proofs.YtlenlhnpmblicaaGreatDoorW.PrintWords
def caesuraref27_Right.f (a0_0 : Int) (a0_1 : Int) (a0_2 : Int) (a0_3 : ByteArray) (a0_4 : Bool) (l0_5 : List Int) (a0_6 : Int) : Option Bool := some (rightB a0_0 a0_1 a0_2 a0_3 l0_5 a0_6)
theorem caesuraref27_Right.calls (a0_0 : Int) (a0_1 : Int) (a0_2 : Int) (a0_3 : ByteArray) (a0_4 : Bool) (A0_5 : Option Addr) (c0_5 : Nat) (l0_5 : List Int) (a0_6 : Int) (r : Bool) (w : World) (hr0_5 : Kd.C (Kd.int .i64) w A0_5 l0_5.length l0_5) (hc0_5 : l0_5.length ≤ c0_5) (h : caesuraref27_Right.f a0_0 a0_1 a0_2 a0_3 a0_4 l0_5 a0_6 = some r) :
  Calls Tryz.prog 16 #[.agg #[.int .i64 a0_0, .int .i64 a0_1, .int .i64 a0_2, .string a0_3, .bool a0_4, .slice A0_5 l0_5.length c0_5, .int .i64 a0_6]] w fun e w' => e = .returned (.bool r) ∧ Below w.heap.size w w' := by
 cases h
 exact NB.refRight_calls a0_0 a0_1 a0_2 a0_3 a0_4 A0_5 c0_5 l0_5 a0_6 w hc0_5 hr0_5
end Go.Proofs.YtlenlhnpmblicaaGreatDoor.XA
end
section
set_option linter.unusedVariables false
set_option linter.unusedSimpArgs false
namespace Go.Proofs.YtlenlhnpmblicaaGreatDoor.NB
set_option linter.unusedSimpArgs false
set_option linter.unusedVariables false
open Go.RowKit Go.Proofs.YtlenlhnpmblicaaGreatDoor.XA
open Go.Proofs.YtlenlhnpmblicaaGreatDoorW.PrintWords Go.Proofs.YtlenlhnpmblicaaGreatDoorW.PrintLast Go.Proofs.YtlenlhnpmblicaaGreatDoorW.PrintMore
set_option maxHeartbeats 8000000 in
set_option maxRecDepth 100000 in
theorem refWit_calls (A0_0 : Option Addr) (c0_0 : Nat) (l0_0 : List Int) (a0_1 : Int) (r : ByteArray) (w : World) (hr0_0 : Kd.C (Kd.int .i64) w A0_0 l0_0.length l0_0) (hc0_0 : l0_0.length ≤ c0_0) (hsh : showsB l0_0 a0_1 = true) (h : note_shown.f l0_0 a0_1 = some r) :
  Calls Tryz.prog 30 #[.agg #[.slice A0_0 l0_0.length c0_0, .int .i64 a0_1]] w fun e w' => e = .returned (.string r) ∧ Below w.heap.size w w' := by
 have hll := (shows_all l0_0 a0_1 hsh).2
 obtain ⟨hpl, ep⟩ := place_ok l0_0 a0_1 hsh
 have hp60 : a0_1.toNat < 60 := by unfold showsB at hsh; simp only [Bool.and_eq_true, decide_eq_true_eq] at hsh; omega
 have ht0 := QB.refTexts_f l0_0 (by omega) 100 (by omega)
 have hu0 := dig27_f a0_1.toNat hp60
 rw [ep] at hu0
 obtain ⟨⟨t, z⟩, ht, h⟩ := Option.bind_eq_some_iff.mp h
 obtain ⟨u, hu, h⟩ := Option.bind_eq_some_iff.mp h
 by_cases hb : t.size + 1 + u.size ≤ 9223372036854775807
 rotate_left
 ·have h' : (if t.size + 1 + u.size ≤ 9223372036854775807 then some ((t ++ (⟨#[64]⟩ : ByteArray)) ++ u) else none) = some r := h
  rw [if_neg hb] at h'; cases h'
 have h' : (if t.size + 1 + u.size ≤ 9223372036854775807 then some ((t ++ (⟨#[64]⟩ : ByteArray)) ++ u) else none) = some r := h
 rw [if_pos hb] at h'
 have HR := Lib.hid (Option.some.inj h')
 have s1 : t.size + 1 ≤ 9223372036854775807 := by omega
 have s2 : (t ++ (⟨#[64]⟩ : ByteArray)).size + u.size ≤ 9223372036854775807 := by
  rw [ByteArray.size_append]; exact hb
 clear h h'
 have hT := Tryz.underlying30
 have et : textsR l0_0 = (t, z) := by
  unfold quote_Texts.f at ht
  rw [if_pos (by omega)] at ht
  exact Option.some.inj ht
 have eu : mkB (Lib.itoa a0_1) = u := by
  unfold strconv_Itoa.f at hu
  split at hu
  ·exact Option.some.inj hu
  ·cases hu
 rw [et] at ht0
 rw [eu] at hu0
 have HT := Lib.hid (fun W (h : Below w.heap.size w W) => caesuraref04_Texts.calls 100 A0_0 c0_0 l0_0 t z W (Kd.C_below hr0_0 h) hc0_0 ht0)
 have HU := Lib.hid (fun W (h : Below w.heap.size w W) => caesuraref27_digits.calls 39 a0_1 u W hu0)
 obtain ⟨n, hn⟩ : ∃ n, l0_0.length = n := ⟨_, rfl⟩
 rw [hn] at HT ⊢
 clear hr0_0 hc0_0 ht hu ht0 hu0 et eu hsh hll hpl ep hp60 hn
 obtain ⟨W0, hW0⟩ : ∃ W, w.alloc (.cells #[.slice A0_0 n c0_0, .int .i64 a0_1] 30) = W := ⟨_, rfl⟩
 have HB := Lib.hid (below_alloc (Below.refl w.heap.size w) (.cells #[.slice A0_0 n c0_0, .int .i64 a0_1] 30))
 have HD := Lib.hid (blk_alloc w (.cells #[.slice A0_0 n c0_0, .int .i64 a0_1] 30))
 rw [hW0] at HB HD
 go_enter Tryz.func30, Tryz.ntmps30
 go_upto_region 1 with fail
 try rw [hW0]
 clear hW0
 have d0 := (blk_cell HD.out 0).trans rfl
 have d1 := (blk_cell HD.out 1).trans rfl
 have HC := Lib.hid (HT.out _ HB.out)
 go_wp2_with (go_at_call 57; refine HC.out.mono ?_)
 rintro e w1 rfl hb1
 dsimp only
 have HD1 := Lib.hid ((hb1.block _ (blk_lt HD.out)).trans HD.out)
 have HB1 := Lib.hid (HB.out.trans (hb1.mono HB.out.size))
 clear hb1 d0 d1 HC HT HB HD
 have d0 := (blk_cell HD1.out 0).trans rfl
 have d1 := (blk_cell HD1.out 1).trans rfl
 have HC := Lib.hid (HU.out _ HB1.out)
 go_wp2_with (go_at_call 58; refine HC.out.mono ?_)
 rintro e w2 ⟨rfl, hb1⟩
 dsimp only
 have HB2 := Lib.hid (HB1.out.trans (hb1.mono HB1.out.size))
 clear hb1
 go_wp2
 go_ret
 exact ⟨by rw [← HR.out]; rfl, HB2.out⟩
end Go.Proofs.YtlenlhnpmblicaaGreatDoor.NB
end
section
set_option linter.unusedVariables false
set_option linter.unusedSimpArgs false
namespace Go.Proofs.YtlenlhnpmblicaaGreatDoor.NB
set_option linter.unusedSimpArgs false
set_option linter.unusedVariables false
open Go.RowKit Go.Proofs.YtlenlhnpmblicaaGreatDoor.XA
open Go.Proofs.YtlenlhnpmblicaaGreatDoorW.PrintWords Go.Proofs.YtlenlhnpmblicaaGreatDoorW.PrintLast Go.Proofs.YtlenlhnpmblicaaGreatDoorW.PrintMore
abbrev alB : ByteArray := ⟨#[97, 108, 108, 111, 119, 101, 100, 32]⟩
def d0 (a : Bool) (s : ByteArray) : ByteArray := if a = true then alB ++ s else s
def d1 (b : Bool) (x s : ByteArray) : ByteArray := if b = true then (s ++ (⟨#[32]⟩ : ByteArray)) ++ x else s
def d3 (b : Bool) (x s : ByteArray) : ByteArray := if b = true then (s ++ (⟨#[32, 36]⟩ : ByteArray)) ++ x else s
def docL (W n1 n2 dn sh : ByteArray) (da b1 b2 b3 b4 : Bool) : ByteArray := d1 b4 sh (d3 b3 dn (d1 b2 n2 (d1 b1 n1 (d0 da W))))
theorem d1_le (b : Bool) (x s : ByteArray) : s.size ≤ (d1 b x s).size := by
 unfold d1
 split
 ·rw [ByteArray.size_append, ByteArray.size_append]; omega
 ·exact Nat.le_refl _
theorem d3_le (b : Bool) (x s : ByteArray) : s.size ≤ (d3 b x s).size := by
 unfold d3
 split
 ·rw [ByteArray.size_append, ByteArray.size_append]; omega
 ·exact Nat.le_refl _
theorem d1_yes (x s : ByteArray) : (d1 true x s).size = s.size + 1 + x.size := by
 unfold d1; rw [if_pos rfl, ByteArray.size_append, ByteArray.size_append]; rfl
theorem d3_yes (x s : ByteArray) : (d3 true x s).size = s.size + 2 + x.size := by
 unfold d3; rw [if_pos rfl, ByteArray.size_append, ByteArray.size_append]; rfl
theorem d0_yes (s : ByteArray) : (d0 true s).size = 8 + s.size := by
 unfold d0; rw [if_pos rfl, ByteArray.size_append]; rfl
theorem d0_list (a : Bool) (s : ByteArray) : (d0 a s).data.toList = (if a = true then [97, 108, 108, 111, 119, 101, 100, 32] else []) ++ s.data.toList := by
 unfold d0
 cases a
 ·rfl
 ·rw [if_pos rfl, ByteArray.data_append, Array.toList_append]; rfl
theorem d1_list (b : Bool) (x s : ByteArray) : (d1 b x s).data.toList = s.data.toList ++ tailT (if b = true then [x] else []) := by
 unfold d1
 cases b
 ·exact (List.append_nil _).symm
 ·rw [if_pos rfl, if_pos rfl, ByteArray.data_append, Array.toList_append, ByteArray.data_append, Array.toList_append, List.append_assoc]
  unfold tailT
  rw [List.flatMap_cons, List.flatMap_nil, List.append_nil]
  rfl
theorem d3_list (b : Bool) (x s : ByteArray) : (d3 b x s).data.toList = s.data.toList ++ tailT (if b = true then [(⟨#[36]⟩ : ByteArray) ++ x] else []) := by
 unfold d3
 cases b
 ·exact (List.append_nil _).symm
 ·rw [if_pos rfl, if_pos rfl, ByteArray.data_append, Array.toList_append, ByteArray.data_append, Array.toList_append, List.append_assoc]
  unfold tailT
  rw [List.flatMap_cons, List.flatMap_nil, List.append_nil, ByteArray.data_append, Array.toList_append]
  rfl
theorem tailT_app (a b : List ByteArray) : tailT (a ++ b) = tailT a ++ tailT b := by unfold tailT; rw [List.flatMap_append]
theorem docL_line (dk di dj : Int) (dn : ByteArray) (da : Bool) (l : List Int) (dp : Int) (sh : ByteArray) (h : rightB dk di dj dn l dp = true) :
  docL (kindW dk) (numS di) (numS dj) dn sh da (di != -1) (dj != -1) (!dn.toList.isEmpty) (decide (0 < l.length)) = lineL dk di dj dn da sh := by
 obtain ⟨_, h2, h3, h4, h5⟩ := right_parts dk di dj dn l dp h
 have e1 : (di != -1) = kindR dk := by
  cases hk : kindR dk with
  | true => rw [hk, if_pos rfl] at h2; simpa using (by omega : di ≠ -1)
  | false => rw [hk, if_neg (by decide)] at h2; subst h2; rfl
 have e2 : (dj != -1) = kindO dk := by
  cases hk : kindO dk with
  | true => rw [hk, if_pos rfl] at h3; simpa using (by omega : dj ≠ -1)
  | false => rw [hk, if_neg (by decide)] at h3; subst h3; rfl
 have e3 : (!dn.toList.isEmpty) = kindN dk := by
  cases hk : kindN dk with
  | true =>
   rw [hk, if_pos rfl] at h4
   unfold namedB at h4
   simp only [Bool.and_eq_true, decide_eq_true_eq] at h4
   rw [ByteArray.toList_eq]
   cases hd : dn.data.toList with
   | nil => exact absurd (by show dn.data.size = 0; rw [← Array.length_toList, hd]; rfl) h4.1.1.1
   | cons x r => rfl
  | false => rw [hk, if_neg (by decide)] at h4; subst h4; kernel_rfl
 have e4 : decide (0 < l.length) = kindT dk := by
  cases hk : kindT dk with
  | true =>
   rw [hk, if_pos rfl] at h5
   unfold showsB at h5
   simp only [Bool.and_eq_true, decide_eq_true_eq] at h5
   exact decide_eq_true (by omega)
  | false => rw [hk, if_neg (by decide)] at h5; rw [h5.1]; rfl
 rw [e1, e2, e3, e4]
 apply ByteArray.ext
 apply Array.toList_inj.1
 have hj : Lib.join ((partsL dk di dj dn sh).map (·.data.toList)) [32] = (kindW dk).data.toList ++ tailT (tailL dk di dj dn sh) := by rw [parts_tail, join_tail]
 have ht : (lineL dk di dj dn da sh).data.toList = (if da = true then [97, 108, 108, 111, 119, 101, 100, 32] else []) ++ ((kindW dk).data.toList ++ tailT (tailL dk di dj dn sh)) := by
  unfold lineL joinL
  rw [hj]
  cases da
  ·rfl
  ·show ((⟨#[97, 108, 108, 111, 119, 101, 100, 32]⟩ : ByteArray) ++ _).data.toList = _
   rw [ByteArray.data_append, Array.toList_append]
   rfl
 rw [ht]
 unfold docL tailL
 rw [d1_list, d3_list, d1_list, d1_list, d0_list, tailT_app, tailT_app, tailT_app]
 simp only [List.append_assoc]
set_option maxRecDepth 100000 in
set_option maxHeartbeats 16000000 in
theorem refLine_right (dk di dj : Int) (dn : ByteArray) (da : Bool) (A : Option Addr) (c : Nat) (l : List Int) (dp : Int) (sh : ByteArray) (w : World) (hC : Kd.C (Kd.int .i64) w A l.length l) (hc : l.length ≤ c) (hr : rightB dk di dj dn l dp = true) (hsh : note_shown.f l dp = some sh) (hz : (lineL dk di dj dn da sh).size ≤ 140737488355400) :
    Calls Tryz.prog 12 #[.agg #[.int .i64 dk, .int .i64 di, .int .i64 dj, .string dn, .bool da, .slice A l.length c, .int .i64 dp]] w fun e w' => e = .returned (.tuple #[.string (lineL dk di dj dn da sh), .int .i64 0]) ∧ Below w.heap.size w w' := by
  have hT := Tryz.underlying32
  have hT3 := Tryz.underlying30
  have HRI := Lib.hid (fun W (h : Below w.heap.size w W) => refRight_calls dk di dj dn da A c l dp W hc (Kd.C_below hC h))
  have HWD : Hid (∀ W, Calls Tryz.prog 20 #[.int .i64 dk] W fun e w' => e = .returned (.string (kindW dk)) ∧ Below W.heap.size W w') := Lib.hid (fun W => caesuraref27_Word.calls dk _ W (refWord_f dk))
  have HN1 : Hid (∀ W, Calls Tryz.prog 29 #[.int .i64 di] W fun e w' => e = .returned (.string (numS di)) ∧ Below W.heap.size W w') := Lib.hid (fun W => caesuraref05_Number.calls 40 di _ W (refNumber_f di))
  have HN2 : Hid (∀ W, Calls Tryz.prog 29 #[.int .i64 dj] W fun e w' => e = .returned (.string (numS dj)) ∧ Below W.heap.size W w') := Lib.hid (fun W => caesuraref05_Number.calls 40 dj _ W (refNumber_f dj))
  have HWI : Hid (0 < l.length → ∀ W (h : Below w.heap.size w W), Calls Tryz.prog 30 #[.agg #[.slice A l.length c, .int .i64 dp]] W fun e w' => e = .returned (.string sh) ∧ Below W.heap.size W w') := Lib.hid (fun h0 W h => by
    obtain ⟨_, _, _, _, h5⟩ := right_parts dk di dj dn l dp hr
    have hk : kindT dk = true := by
      cases hk : kindT dk with
      | true => rfl
      | false => rw [hk, if_neg (by decide)] at h5; rw [h5.1] at h0; cases h0
    rw [hk, if_pos rfl] at h5
    exact refWit_calls A c l dp sh W (Kd.C_below hC h) hc h5 hsh)
  have H0 := Lib.hid (ZW.one (w := w) (W := w.alloc (.cells (dC dk di dj dn da A l.length c dp) 32)) (blk_new w _) (below_alloc (Below.refl _ _) _))
  have hL := docL_line dk di dj dn da l dp sh hr
  rw [← hL] at hz ⊢
  rw [hr] at HRI
  obtain ⟨n, hn⟩ : ∃ n, l.length = n := ⟨_, rfl⟩
  rw [hn] at hz HRI HWI H0 ⊢
  clear hC hc hr hsh hL hn
  unfold docL at hz ⊢
  obtain ⟨b1, hb1⟩ : ∃ b, (di != -1) = b := ⟨_, rfl⟩
  obtain ⟨b2, hb2⟩ : ∃ b, (dj != -1) = b := ⟨_, rfl⟩
  obtain ⟨b3, hb3⟩ : ∃ b, (!dn.toList.isEmpty) = b := ⟨_, rfl⟩
  obtain ⟨b4, hb4⟩ : ∃ b, decide (0 < n) = b := ⟨_, rfl⟩
  rw [hb1, hb2, hb3, hb4] at hz ⊢
  generalize kindW dk = kw at *
  generalize numS di = n1 at *
  generalize numS dj = n2 at *
  have hz3 := Nat.le_trans (d1_le b4 sh _) hz
  have hz2 := Nat.le_trans (d3_le b3 dn _) hz3
  have hz1 := Nat.le_trans (d1_le b2 n2 _) hz2
  have hz0 := Nat.le_trans (d1_le b1 n1 _) hz1
  obtain ⟨s0, hs0⟩ : ∃ s, d0 da kw = s := ⟨_, rfl⟩
  rw [hs0] at hz hz3 hz2 hz1 hz0 ⊢
  obtain ⟨s1, hs1⟩ : ∃ s, d1 b1 n1 s0 = s := ⟨_, rfl⟩
  rw [hs1] at hz hz3 hz2 hz1 ⊢
  obtain ⟨s2, hs2⟩ : ∃ s, d1 b2 n2 s1 = s := ⟨_, rfl⟩
  rw [hs2] at hz hz3 hz2 ⊢
  obtain ⟨s3, hs3⟩ : ∃ s, d3 b3 dn s2 = s := ⟨_, rfl⟩
  rw [hs3] at hz hz3 ⊢
  obtain ⟨s4, hs4⟩ : ∃ s, d1 b4 sh s3 = s := ⟨_, rfl⟩
  rw [hs4] at hz ⊢
  have HZ := Lib.hid (And.intro hz0 (And.intro hz1 (And.intro hz2 (And.intro hz3 hz))))
  have HS0 := Lib.hid hs0
  have HS1 := Lib.hid hs1
  have HS2 := Lib.hid hs2
  have HS3 := Lib.hid hs3
  have HS4 := Lib.hid hs4
  have HB1 := Lib.hid hb1
  have HB2 := Lib.hid hb2
  have HB3 := Lib.hid hb3
  have HB4 := Lib.hid hb4
  clear hz hz0 hz1 hz2 hz3 hs0 hs1 hs2 hs3 hs4 hb1 hb2 hb3 hb4
  go_enter Tryz.func12, Tryz.ntmps12
  try simp only [List.append_eq, List.cons_append, List.nil_append]
  go_upto_region 1 with fail
  generalize w.alloc (.cells #[.int .i64 dk, .int .i64 di, .int .i64 dj, .string dn, .bool da, .slice A n c, .int .i64 dp] 32) = w1 at H0 ⊢
  obtain ⟨a0, a1, a2, a3, a4, a5, a6⟩ := H0.out.held
  have HC := Lib.hid (HRI.out w1 H0.out.bel)
  go_wp2_with (go_at_call 16; refine HC.out.mono ?_)
  first | (rintro e w2 rfl hb2) | (rintro e w2 ⟨rfl, hb2⟩)
  have H2 := Lib.hid (H0.out.step hb2)
  clear hb2 H0 HC HRI a0 a1 a2 a3 a4 a5 a6
  try dsimp only
  have a0 := H2.out.held.1
  go_wp2_with (go_at_call 20; refine (HWD.out _).mono ?_)
  first | (rintro e w3 rfl hb3) | (rintro e w3 ⟨rfl, hb3⟩)
  have H3 := Lib.hid (H2.out.step hb3)
  clear hb3 H2 HWD a0
  try dsimp only
  have a4 := H3.out.held.2.2.2.2.1
  go_upto_if 12 with fail
  clear a4
  go_cut [4] (fun v wc => v = .string s0 ∧ ZW w [(w.heap.size, dC dk di dj dn da A n c dp)] wc)
  case first =>
   have hz := HZ.out.1
   have hs := HS0.out
   rw [← hs] at hz
   cases da with
   | true =>
    rw [d0_yes] at hz
    have hz2 : 8 + kw.size ≤ 9223372036854775807 := by omega
    have HS := Lib.hid hs
    clear hz hs HS0 HS1 HS2 HS3 HS4 HZ
    go_wp2
    go_meet
    case rel => exact ⟨by rw [← HS.out]; rfl, H3.out⟩
   | false =>
    have HS := Lib.hid hs
    clear hz hs HS0 HS1 HS2 HS3 HS4 HZ
    go_wp2
    go_meet
    case rel => exact ⟨by rw [← HS.out]; rfl, H3.out⟩
  case rest =>
  clear H3 HS0
  obtain ⟨rfl, hH⟩ := hcut
  have H4 := Lib.hid hH
  clear hH
  generalize wc = v4 at H4 ⊢
  have hf := HB1.out
  have a1 := H4.out.held.2.1
  go_upto_if 17 with fail
  clear a1 hf
  go_cut [4] (fun v wc => v = .string s1 ∧ ZW w [(w.heap.size, dC dk di dj dn da A n c dp)] wc)
  case first =>
   have hz := HZ.out.2.1
   have hs := HS1.out
   rw [← hs] at hz
   cases b1 with
   | true =>
    rw [d1_yes] at hz
    have hz1 : s0.size + 1 ≤ 9223372036854775807 := by omega
    have hz2 : (s0 ++ (⟨#[32]⟩ : ByteArray)).size + n1.size ≤ 9223372036854775807 := by rw [ByteArray.size_append]; show s0.size + 1 + n1.size ≤ _; omega
    have HS := Lib.hid hs
    have a1 := H4.out.held.2.1
    clear hz hs HS1 HS2 HS3 HS4 HZ HB1 HB2 HB3 HB4
    have HC := Lib.hid (HN1.out v4)
    go_wp2_with (go_at_call 29; refine HC.out.mono ?_)
    first | (rintro e wn rfl hbn) | (rintro e wn ⟨rfl, hbn⟩)
    have HX := Lib.hid (H4.out.step hbn)
    clear hbn HC
    try dsimp only
    go_wp2
    go_meet
    case rel => exact ⟨by rw [← HS.out]; rfl, HX.out⟩
   | false =>
    have HS := Lib.hid hs
    clear hz hs HS1 HS2 HS3 HS4 HZ HB1 HB2 HB3 HB4
    go_wp2
    go_meet
    case rel => exact ⟨by rw [← HS.out]; rfl, H4.out⟩
  case rest =>
  clear H4 HS1 HB1
  obtain ⟨rfl, hH⟩ := hcut
  have H5 := Lib.hid hH
  clear hH
  generalize wc = v5 at H5 ⊢
  have hf := HB2.out
  have a1 := H5.out.held.2.2.1
  go_upto_if 26 with fail
  clear a1 hf
  go_cut [4] (fun v wc => v = .string s2 ∧ ZW w [(w.heap.size, dC dk di dj dn da A n c dp)] wc)
  case first =>
   have hz := HZ.out.2.2.1
   have hs := HS2.out
   rw [← hs] at hz
   cases b2 with
   | true =>
    rw [d1_yes] at hz
    have hz1 : s1.size + 1 ≤ 9223372036854775807 := by omega
    have hz2 : (s1 ++ (⟨#[32]⟩ : ByteArray)).size + n2.size ≤ 9223372036854775807 := by rw [ByteArray.size_append]; show s1.size + 1 + n2.size ≤ _; omega
    have HS := Lib.hid hs
    have a1 := H5.out.held.2.2.1
    clear hz hs HS2 HS3 HS4 HZ HB2 HB3 HB4
    have HC := Lib.hid (HN2.out v5)
    go_wp2_with (go_at_call 29; refine HC.out.mono ?_)
    first | (rintro e wn rfl hbn) | (rintro e wn ⟨rfl, hbn⟩)
    have HX := Lib.hid (H5.out.step hbn)
    clear hbn HC
    try dsimp only
    go_wp2
    go_meet
    case rel => exact ⟨by rw [← HS.out]; rfl, HX.out⟩
   | false =>
    have HS := Lib.hid hs
    clear hz hs HS2 HS3 HS4 HZ HB2 HB3 HB4
    go_wp2
    go_meet
    case rel => exact ⟨by rw [← HS.out]; rfl, H5.out⟩
  case rest =>
  clear H5 HS2 HB2
  obtain ⟨rfl, hH⟩ := hcut
  have H6 := Lib.hid hH
  clear hH
  generalize wc = v6 at H6 ⊢
  have hf := HB3.out
  have a1 := H6.out.held.2.2.2.1
  go_upto_if 35 with fail
  clear a1 hf
  go_cut [4] (fun v wc => v = .string s3 ∧ ZW w [(w.heap.size, dC dk di dj dn da A n c dp)] wc)
  case first =>
   have hz := HZ.out.2.2.2.1
   have hs := HS3.out
   rw [← hs] at hz
   cases b3 with
   | true =>
    rw [d3_yes] at hz
    have hz1 : s2.size + 2 ≤ 9223372036854775807 := by omega
    have hz2 : (s2 ++ (⟨#[32, 36]⟩ : ByteArray)).size + dn.size ≤ 9223372036854775807 := by rw [ByteArray.size_append]; show s2.size + 2 + dn.size ≤ _; omega
    have HS := Lib.hid hs
    have a3 := H6.out.held.2.2.2.1
    clear hz hs HS3 HS4 HZ HB3 HB4
    go_wp2
    go_meet
    case rel => exact ⟨by rw [← HS.out]; rfl, H6.out⟩
   | false =>
    have HS := Lib.hid hs
    clear hz hs HS3 HS4 HZ HB3 HB4
    go_wp2
    go_meet
    case rel => exact ⟨by rw [← HS.out]; rfl, H6.out⟩
  case rest =>
  clear H6 HS3 HB3
  obtain ⟨rfl, hH⟩ := hcut
  have H7 := Lib.hid hH
  clear hH
  generalize wc = v7 at H7 ⊢
  have hf := HB4.out
  have a1 := H7.out.held.2.2.2.2.2.1
  go_upto_if 45 with fail
  clear a1 hf
  go_cut [4] (fun v wc => v = .string s4 ∧ ZW w [(w.heap.size, dC dk di dj dn da A n c dp)] wc)
  case first =>
   have hz := HZ.out.2.2.2.2
   have hs := HS4.out
   rw [← hs] at hz
   cases b4 with
   | true =>
    have HBT := Lib.hid HB4.out
    rw [d1_yes] at hz
    have hz1 : s3.size + 1 ≤ 9223372036854775807 := by omega
    have hz2 : (s3 ++ (⟨#[32]⟩ : ByteArray)).size + sh.size ≤ 9223372036854775807 := by rw [ByteArray.size_append]; show s3.size + 1 + sh.size ≤ _; omega
    have HS := Lib.hid hs
    have a5 := H7.out.held.2.2.2.2.2.1
    have a6 := H7.out.held.2.2.2.2.2.2
    clear hz hs HS4 HZ HB4
    have HC := Lib.hid (HWI.out (of_decide_eq_true HBT.out) v7 H7.out.bel)
    go_wp2_with (go_at_call 30; refine HC.out.mono ?_)
    first | (rintro e wn rfl hbn) | (rintro e wn ⟨rfl, hbn⟩)
    have HX := Lib.hid (H7.out.step hbn)
    clear hbn HC
    try dsimp only
    go_wp2
    go_meet
    case rel => exact ⟨by rw [← HS.out]; rfl, HX.out⟩
   | false =>
    have HS := Lib.hid hs
    clear hz hs HS4 HZ HB4
    go_wp2
    go_meet
    case rel => exact ⟨by rw [← HS.out]; rfl, H7.out⟩
  case rest =>
  clear H7 HS4 HB4
  obtain ⟨rfl, hH⟩ := hcut
  have H8 := Lib.hid hH
  clear hH
  generalize wc = v8 at H8 ⊢
  go_wp2
  go_ret2
  exact ⟨rfl, H8.out.bel⟩
set_option maxRecDepth 100000 in
set_option maxHeartbeats 4000000 in
theorem refLine_wrong (dk di dj : Int) (dn : ByteArray) (da : Bool) (A : Option Addr) (c : Nat) (l : List Int) (dp : Int) (w : World) (hC : Kd.C (Kd.int .i64) w A l.length l) (hc : l.length ≤ c) (hr : rightB dk di dj dn l dp = false) :
  Calls Tryz.prog 12 #[.agg #[.int .i64 dk, .int .i64 di, .int .i64 dj, .string dn, .bool da, .slice A l.length c, .int .i64 dp]] w fun e w' => e = .returned (.tuple #[.string ⟨#[]⟩, .int .i64 1]) ∧ Below w.heap.size w w' := by
 have hT := Tryz.underlying32
 have HRI := Lib.hid (fun W (h : Below w.heap.size w W) => refRight_calls dk di dj dn da A c l dp W hc (Kd.C_below hC h))
 rw [hr] at HRI
 have H0 := Lib.hid (ZW.one (w := w) (W := w.alloc (.cells (dC dk di dj dn da A l.length c dp) 32)) (blk_new w _) (below_alloc (Below.refl _ _) _))
 obtain ⟨n, hn⟩ : ∃ n, l.length = n := ⟨_, rfl⟩
 rw [hn] at HRI H0 ⊢
 clear hC hc hr hn
 go_enter Tryz.func12, Tryz.ntmps12
 try simp only [List.append_eq, List.cons_append, List.nil_append]
 go_upto_region 1 with fail
 generalize w.alloc (.cells #[.int .i64 dk, .int .i64 di, .int .i64 dj, .string dn, .bool da, .slice A n c, .int .i64 dp] 32) = w1 at H0 ⊢
 obtain ⟨a0, a1, a2, a3, a4, a5, a6⟩ := H0.out.held
 have HC := Lib.hid (HRI.out w1 H0.out.bel)
 go_wp2_with (go_at_call 16; refine HC.out.mono ?_)
 first | (rintro e w2 rfl hb2) | (rintro e w2 ⟨rfl, hb2⟩)
 have H2 := Lib.hid (H0.out.step hb2)
 clear hb2 H0 HC HRI a0 a1 a2 a3 a4 a5 a6
 try dsimp only
 go_wp2
 go_ret2
 exact ⟨rfl, H2.out.bel⟩
end Go.Proofs.YtlenlhnpmblicaaGreatDoor.NB
namespace Go.Proofs.YtlenlhnpmblicaaGreatDoor.XA
set_option linter.unusedVariables false
open Go.RowKit
open Go.Proofs.YtlenlhnpmblicaaGreatDoorW.PrintWords
def caesuraref27_Line.f (a0_0 : Int) (a0_1 : Int) (a0_2 : Int) (a0_3 : ByteArray) (a0_4 : Bool) (l0_5 : List Int) (a0_6 : Int) : Option (ByteArray × Int) := note_Line.f a0_0 a0_1 a0_2 a0_3 a0_4 l0_5 a0_6
theorem caesuraref27_Line.calls (a0_0 : Int) (a0_1 : Int) (a0_2 : Int) (a0_3 : ByteArray) (a0_4 : Bool) (A0_5 : Option Addr) (c0_5 : Nat) (l0_5 : List Int) (a0_6 : Int) (r1 : ByteArray) (r2 : Int) (w : World) (hr0_5 : Kd.C (Kd.int .i64) w A0_5 l0_5.length l0_5) (hc0_5 : l0_5.length ≤ c0_5) (h : caesuraref27_Line.f a0_0 a0_1 a0_2 a0_3 a0_4 l0_5 a0_6 = some (r1, r2)) :
  Calls Tryz.prog 12 #[.agg #[.int .i64 a0_0, .int .i64 a0_1, .int .i64 a0_2, .string a0_3, .bool a0_4, .slice A0_5 l0_5.length c0_5, .int .i64 a0_6]] w fun e w' => e = .returned (.tuple #[.string r1, .int .i64 r2]) ∧ Below w.heap.size w w' := by
 unfold caesuraref27_Line.f note_Line.f note_Right.f at h
 by_cases h0 : a0_3.size ≤ 9223372036854775807
 rotate_left
 ·rw [if_neg h0] at h; cases h
 rw [if_pos h0, Option.bind_some] at h
 cases hr : rightB a0_0 a0_1 a0_2 a0_3 l0_5 a0_6 with
 | false =>
  rw [hr, if_neg (by decide)] at h
  cases h
  exact NB.refLine_wrong a0_0 a0_1 a0_2 a0_3 a0_4 A0_5 c0_5 l0_5 a0_6 w hr0_5 hc0_5 hr
 | true =>
  rw [hr, if_pos rfl] at h
  obtain ⟨s, hs, h⟩ := Option.bind_eq_some_iff.1 h
  cases h
  unfold note_line.f at hs
  obtain ⟨sh, hsh, hs⟩ := Option.bind_eq_some_iff.1 hs
  by_cases h1 : a0_3.size ≤ 140737488355328 ∧ (Lib.join ((partsL a0_0 a0_1 a0_2 a0_3 sh).map (·.data.toList)) [32]).length ≤ 140737488355328
  rotate_left
  ·rw [if_neg h1] at hs; cases hs
  rw [if_pos h1] at hs
  cases hs
  refine NB.refLine_right a0_0 a0_1 a0_2 a0_3 a0_4 A0_5 c0_5 l0_5 a0_6 sh w hr0_5 hc0_5 hr hsh ?_
  have hj : (joinL (partsL a0_0 a0_1 a0_2 a0_3 sh)).size ≤ 140737488355328 := by
   show (Lib.join _ _).toArray.size ≤ _
   rw [List.size_toArray]
   exact h1.2
  unfold lineL
  split
  ·rw [ByteArray.size_append]
   show 8 + _ ≤ _
   omega
  ·omega
end Go.Proofs.YtlenlhnpmblicaaGreatDoor.XA
end
section
set_option linter.unusedVariables false
set_option linter.unusedSimpArgs false
namespace Go.Proofs.YtlenlhnpmblicaaGreatDoor.XA
open Go.RowKit Go.Proofs.YtlenlhnpmblicaaGreatDoorW.PrintWords Go.Proofs.YtlenlhnpmblicaaGreatDoorW.PrintLast Go.Proofs.YtlenlhnpmblicaaGreatDoorW.PrintMore
attribute [local go_sem] max2_int min2_int max_two min_two max_three min_three max_four min_four   -- for this text's walks alone
set_option linter.unusedVariables false
set_option linter.unusedSimpArgs false
end Go.Proofs.YtlenlhnpmblicaaGreatDoor.XA
end
section
set_option linter.unusedVariables false
set_option linter.unusedSimpArgs false
namespace Go.Proofs.YtlenlhnpmblicaaGreatDoor.XA
set_option linter.unusedSimpArgs false
set_option linter.unusedVariables false
open Go.RowKit
open Go.Proofs.YtlenlhnpmblicaaGreatDoorW.PrintWords Go.Proofs.YtlenlhnpmblicaaGreatDoorW.PrintLast Go.Proofs.YtlenlhnpmblicaaGreatDoorW.PrintMore
theorem dlen (s : ByteArray) : s.data.toList.length = s.size := by rw [Array.length_toList]; rfl
theorem lineX_some (x : S32) (h : okD x) : ∃ s, lineX x = some s ∧ s.length ≤ 100001 := by
 obtain ⟨s, sh, h1, _, h2, _⟩ := line_text x h
 refine ⟨s.data.toList ++ [10], by unfold lineX; rw [h1]; rfl, ?_⟩
 rw [List.length_append, dlen]
 show s.size + 1 ≤ _
 omega
theorem shortX_of : ∀ l : List S32, (∀ x ∈ l, okD x) → shortX l = true := fun l h => by
 unfold shortX
 rw [List.all_eq_true]
 intro x hx
 obtain ⟨s, h1, h2⟩ := lineX_some x (h x hx)
 rw [h1, Bool.and_eq_true]
 exact ⟨decide_eq_true (by have := (h x hx).1; omega), decide_eq_true (by omega)⟩
def linesT (l : List S32) : List UInt8 := l.flatMap fun x => (lineX x).getD []
theorem linesT_len : ∀ l : List S32, (∀ x ∈ l, okD x) → (linesT l).length ≤ 100001 * l.length
 | [], _ => by simp [linesT]
 | x :: r, h => by
  obtain ⟨s, h1, h2⟩ := lineX_some x (h x List.mem_cons_self)
  have := linesT_len r (fun y hy => h y (List.mem_cons_of_mem _ hy))
  unfold linesT at this ⊢
  rw [List.flatMap_cons, h1, List.length_append, List.length_cons]
  show s.length + _ ≤ _
  omega
theorem text_f (l : List S32) (h : ∀ x ∈ l, okD x) (hl : l.length ≤ 1000) : note_Text.f l = some (if l.any wrongB = true then (⟨#[]⟩, 1) else (⟨(linesT l).toArray⟩, 0)) := by
 unfold note_Text.f
 rw [if_pos (List.all_eq_true.2 fun x hx => decide_eq_true (by have := (h x hx).1; omega))]
 by_cases hw : l.any wrongB = true
 ·rw [if_pos hw, if_pos hw]
 ·rw [if_neg hw, if_neg hw, if_neg (by omega), if_pos (shortX_of l h), linesX_done l (shortX_of l h)]
  rfl
theorem right_kind (x : S32) (h : wrongB x = false) : kindK x.f0 = true ∧ rightB x.f0 x.f1 x.f2 x.f3 x.f5.f0 x.f5.f1 = true := by
 have h1 : rightB x.f0 x.f1 x.f2 x.f3 x.f5.f0 x.f5.f1 = true := by
  unfold wrongB at h
  simpa using h
 refine ⟨?_, h1⟩
 unfold rightB at h1
 simp only [Bool.and_eq_true] at h1
 exact h1.1.1.1.1.1.1
theorem Line_right (x : S32) (h : okD x) (hw : wrongB x = false) (s : ByteArray) (hs : note_line.f x.f0 x.f1 x.f2 x.f3 x.f4 x.f5.f0 x.f5.f1 = some s) : note_Line.f x.f0 x.f1 x.f2 x.f3 x.f4 x.f5.f0 x.f5.f1 = some (s, 0) := by
 unfold note_Line.f note_Right.f
 rw [if_pos (by have := h.1; omega), Option.bind_some, (right_kind x hw).2, if_pos rfl, hs]
 rfl
theorem okD_of (l : List S32) (hw : ∀ x ∈ l, wfD x) (m : Nat) (hm : m ≤ 5000) (ht : ¬ m < l.length + totD l) : ∀ x ∈ l, okD x := fun x hx => by
 have h1 := tot_mem l x hx
 have h2 := (hw x hx).2.2.2.2.2.2
 have h3 : -9223372036854775808 ≤ x.f5.f1 ∧ x.f5.f1 ≤ 9223372036854775807 := by
  have := h2
  simp [Lit.wf, IntKind.min, IntKind.max, IntKind.signed, IntKind.bits] at this
  omega
 exact ⟨by omega, by omega, h3.1, h3.2⟩
end Go.Proofs.YtlenlhnpmblicaaGreatDoor.XA
end
section
set_option linter.unusedVariables false
set_option linter.unusedSimpArgs false
namespace Go.Proofs.YtlenlhnpmblicaaGreatDoor.NB
set_option linter.unusedSimpArgs false
set_option linter.unusedVariables false
open Go.RowKit Go.Proofs.YtlenlhnpmblicaaGreatDoor.XA
open Go.Proofs.YtlenlhnpmblicaaGreatDoorW.PrintWords
theorem line_out (x : S32) (h : okD x) : (wrongB x = true ∧ note_Line.f x.f0 x.f1 x.f2 x.f3 x.f4 x.f5.f0 x.f5.f1 = some (⟨#[]⟩, 1)) ∨
  (wrongB x = false ∧ ∃ s, note_line.f x.f0 x.f1 x.f2 x.f3 x.f4 x.f5.f0 x.f5.f1 = some s ∧ note_Line.f x.f0 x.f1 x.f2 x.f3 x.f4 x.f5.f0 x.f5.f1 = some (s, 0) ∧ (lineX x).getD [] = s.data.toList ++ [10] ∧ s.size ≤ 100000) := by
 cases hw : wrongB x with
 | true =>
  refine .inl ⟨rfl, ?_⟩
  have hr : rightB x.f0 x.f1 x.f2 x.f3 x.f5.f0 x.f5.f1 = false := by unfold wrongB at hw; simpa using hw
  unfold note_Line.f note_Right.f
  rw [if_pos (by have := h.1; omega), Option.bind_some, hr, if_neg (by decide)]
 | false =>
  obtain ⟨s, sh, h1, _, h2, _⟩ := line_text x h
  exact .inr ⟨rfl, s, h1, Line_right x h hw s h1, by unfold lineX; rw [h1]; rfl, h2⟩
end Go.Proofs.YtlenlhnpmblicaaGreatDoor.NB
end
section
set_option linter.unusedVariables false
set_option linter.unusedSimpArgs false
namespace Go.Proofs.YtlenlhnpmblicaaGreatDoor.NB
set_option linter.unusedSimpArgs false
set_option linter.unusedVariables false
open Go.RowKit Go.Proofs.YtlenlhnpmblicaaGreatDoor.XA
open Go.Proofs.YtlenlhnpmblicaaGreatDoorW.PrintWords
abbrev ruB (n : ByteArray) : ByteArray := (⟨#[114, 117, 108, 101, 32]⟩ : ByteArray) ++ n
def docS (dk : Int) (n1 n2 dn sh : ByteArray) : ByteArray :=
 if dk = 1 then ruB n1 ++ (⟨#[32, 110, 101, 118, 101, 114, 32, 100, 101, 99, 105, 100, 101, 115]⟩ : ByteArray)
 else if dk = 2 then (((ruB n1 ++ (⟨#[32, 115, 104, 97, 100, 111, 119, 115, 32, 114, 117, 108, 101, 32]⟩ : ByteArray)) ++ n2) ++ (⟨#[32, 97, 116, 32]⟩ : ByteArray)) ++ sh
 else if dk = 3 then ruB n1 ++ (⟨#[32, 99, 104, 97, 110, 103, 101, 115, 32, 110, 111, 116, 104, 105, 110, 103]⟩ : ByteArray)
 else if dk = 4 then (⟨#[110, 111, 32, 108, 105, 110, 101, 32, 117, 115, 101, 115, 32, 36]⟩ : ByteArray) ++ dn
 else if dk = 5 then ((⟨#[36]⟩ : ByteArray) ++ dn) ++ (⟨#[32, 104, 97, 115, 32, 110, 111, 32, 99, 104, 97, 114, 97, 99, 116, 101, 114, 115]⟩ : ByteArray)
 else if dk = 6 then (⟨#[111, 110, 108, 121, 32, 116, 104, 101, 32, 102, 105, 114, 115, 116, 32, 111, 110, 101, 32, 99, 117, 116, 115, 32, 97, 116, 32]⟩ : ByteArray) ++ sh
 else (⟨#[111, 110, 108, 121, 32, 116, 104, 101, 32, 115, 101, 99, 111, 110, 100, 32, 111, 110, 101, 32, 99, 117, 116, 115, 32, 97, 116, 32]⟩ : ByteArray) ++ sh
def docSA (da : Bool) (s : ByteArray) : ByteArray := if da = true then s ++ (⟨#[32, 40, 97, 108, 108, 111, 119, 101, 100, 41]⟩ : ByteArray) else s
theorem numS_len (n : Int) : (numS n).size ≤ 45 := by
 show (List.toArray _).size ≤ _
 rw [List.size_toArray]
 exact num_len n
theorem ba_eq {a b : ByteArray} (h : a.data.toList = b.data.toList) : a = b := ByteArray.ext (Array.toList_inj.1 h)
set_option maxRecDepth 4000 in
theorem say_f (k : Nat) (dk di dj : Int) (dn : ByteArray) (da : Bool) (l : List Int) (dp : Int) (sh : ByteArray) (h : rightB dk di dj dn l dp = true) (hs : dn.size ≤ 5000) (hsh : note_shown.f l dp = some sh) (hz : sh.size ≤ 60000) :
  note_say.f (k + 1) dk di dj dn da l dp = some (docS dk (numS di) (numS dj) dn sh) := by
 obtain ⟨h1, _, _, _, h5⟩ := right_parts dk di dj dn l dp h
 have a1 := numS_len di
 have a2 := numS_len dj
 have f1 : word_Number.f (k + 1) di = some (numS di) := number_f di k
 have f2 : word_Number.f (k + 1) dj = some (numS dj) := number_f dj k
 unfold note_say.f
 rw [f1, f2, Option.bind_some, Option.bind_some]
 clear f1 f2
 generalize numS di = n1 at *
 generalize numS dj = n2 at *
 have s5 : ∀ n : ByteArray, ((⟨#[114, 117, 108, 101, 32]⟩ : ByteArray) ++ n).size = 5 + n.size := fun n => by rw [ByteArray.size_append]; rfl
 have s4 : ((⟨#[32, 97, 116, 32]⟩ : ByteArray) ++ sh).size = 4 + sh.size := by rw [ByteArray.size_append]; rfl
 have s36 : ((⟨#[36]⟩ : ByteArray) ++ dn).size = 1 + dn.size := by rw [ByteArray.size_append]; rfl
 have s9 : (((⟨#[114, 117, 108, 101, 32]⟩ : ByteArray) ++ n1) ++ (⟨#[32, 115, 104, 97, 100, 111, 119, 115, 32]⟩ : ByteArray)).size = 5 + n1.size + 9 := by rw [ByteArray.size_append, s5]; rfl
 have s10 : ((((⟨#[114, 117, 108, 101, 32]⟩ : ByteArray) ++ n1) ++ (⟨#[32, 115, 104, 97, 100, 111, 119, 115, 32]⟩ : ByteArray)) ++ ((⟨#[114, 117, 108, 101, 32]⟩ : ByteArray) ++ n2)).size = 5 + n1.size + 9 + (5 + n2.size) := by rw [ByteArray.size_append, s9, s5]
 rw [if_pos (by omega), if_pos (by omega)]
 have h7 : 1 ≤ dk ∧ dk ≤ 7 := by simpa [kindK] using h1
 have hl : kindT dk = true → (l.length : Int) > 0 := fun hk => by
  rw [hk, if_pos rfl] at h5
  unfold showsB at h5
  simp only [Bool.and_eq_true, decide_eq_true_eq] at h5
  omega
 have hl0 : kindT dk = false → ¬ ((l.length : Int) > 0) := fun hk => by
  rw [hk, if_neg (by decide)] at h5
  rw [h5.1]
  decide
 rcases kind_cases dk h7.1 h7.2 with rfl | rfl | rfl | rfl | rfl | rfl | rfl
 ·rw [if_neg (hl0 rfl)]
  simp only [note_say.j0, docS, s5, s4, s36, s9, s10, reduceIte, Int.reduceEq]
  rw [if_pos (by omega)]
 ·rw [if_pos (hl rfl), hsh, Option.bind_some, if_pos (by omega)]
  simp only [note_say.j0, docS, s5, s4, s36, s9, s10, reduceIte, Int.reduceEq]
  rw [if_pos (by omega), if_pos (by omega), if_pos (by omega)]
  first | done | (congr 1; done) | (congr 1; apply ba_eq; simp [ByteArray.data_append])
 ·rw [if_neg (hl0 rfl)]
  simp only [note_say.j0, docS, s5, s4, s36, s9, s10, reduceIte, Int.reduceEq]
  rw [if_pos (by omega)]
 ·rw [if_neg (hl0 rfl)]
  simp only [note_say.j0, docS, s5, s4, s36, s9, s10, reduceIte, Int.reduceEq]
  rw [if_pos (by omega)]
 ·rw [if_neg (hl0 rfl)]
  simp only [note_say.j0, docS, s5, s4, s36, s9, s10, reduceIte, Int.reduceEq]
  rw [if_pos (by omega), if_pos (by omega)]
 ·rw [if_pos (hl rfl), hsh, Option.bind_some, if_pos (by omega)]
  simp only [note_say.j0, docS, s5, s4, s36, s9, s10, reduceIte, Int.reduceEq]
  rw [if_pos (by omega)]
  first | done | (congr 1; done) | (congr 1; apply ba_eq; simp [ByteArray.data_append])
 ·rw [if_pos (hl rfl), hsh, Option.bind_some, if_pos (by omega)]
  simp only [note_say.j0, docS, s5, s4, s36, s9, s10, reduceIte, Int.reduceEq]
  rw [if_pos (by omega)]
  first | done | (congr 1; done) | (congr 1; apply ba_eq; simp [ByteArray.data_append])
theorem docS_len (dk : Int) (n1 n2 dn sh : ByteArray) (a1 : n1.size ≤ 45) (a2 : n2.size ≤ 45) (a3 : dn.size ≤ 5000) (a4 : sh.size ≤ 60000) : (docS dk n1 n2 dn sh).size ≤ 70000 := by
 unfold docS
 repeat' split
 all_goals (simp only [ruB, ByteArray.size_append]; simp only [ByteArray.size, List.size_toArray, List.length_cons, List.length_nil] at *; omega)
theorem Say_f (k : Nat) (x : S32) (h : okD x) : note_Say.f (k + 1) x.f0 x.f1 x.f2 x.f3 x.f4 x.f5.f0 x.f5.f1 =
  if rightB x.f0 x.f1 x.f2 x.f3 x.f5.f0 x.f5.f1 = true then (note_shown.f x.f5.f0 x.f5.f1).map fun sh => (docSA x.f4 (docS x.f0 (numS x.f1) (numS x.f2) x.f3 sh), 0) else some (⟨#[]⟩, 1) := by
 obtain ⟨sh, hsh, hl⟩ := shown_some x.f5.f0 x.f5.f1 h.2.1 h.2.2.1 h.2.2.2
 unfold note_Say.f note_Right.f
 rw [if_pos (by have := h.1; omega), Option.bind_some]
 by_cases hr : rightB x.f0 x.f1 x.f2 x.f3 x.f5.f0 x.f5.f1 = true
 ·have hd := docS_len x.f0 _ _ x.f3 sh (numS_len x.f1) (numS_len x.f2) h.1 hl
  rw [if_pos hr, if_pos hr, say_f k _ _ _ _ _ _ _ sh hr h.1 hsh hl, hsh, Option.map_some, Option.bind_some, Option.bind_some]
  unfold docSA
  by_cases ha : x.f4 = true
  ·rw [if_pos ha, if_pos ha, if_pos (by omega)]
  ·rw [if_neg ha, if_neg ha]
 ·rw [if_neg hr, if_neg hr]
end Go.Proofs.YtlenlhnpmblicaaGreatDoor.NB
end
section
set_option linter.unusedVariables false
set_option linter.unusedSimpArgs false
namespace Go.Proofs.YtlenlhnpmblicaaGreatDoor.NB
set_option linter.unusedSimpArgs false
set_option linter.unusedVariables false
open Go.RowKit Go.Proofs.YtlenlhnpmblicaaGreatDoor.XA
open Go.Proofs.YtlenlhnpmblicaaGreatDoorW.PrintWords Go.Proofs.YtlenlhnpmblicaaGreatDoorW.PrintLast Go.Proofs.YtlenlhnpmblicaaGreatDoorW.PrintMore
set_option maxRecDepth 100000 in
set_option maxHeartbeats 4000000 in
theorem refSay_wrong (dk di dj : Int) (dn : ByteArray) (da : Bool) (A : Option Addr) (c : Nat) (l : List Int) (dp : Int) (w : World) (hC : Kd.C (Kd.int .i64) w A l.length l) (hc : l.length ≤ c) (hr : rightB dk di dj dn l dp = false) :
  Calls Tryz.prog 14 #[.agg #[.int .i64 dk, .int .i64 di, .int .i64 dj, .string dn, .bool da, .slice A l.length c, .int .i64 dp]] w fun e w' => e = .returned (.tuple #[.string ⟨#[]⟩, .int .i64 1]) ∧ Below w.heap.size w w' := by
 have hT := Tryz.underlying32
 have hT3 := Tryz.underlying30
 have HRI := Lib.hid (fun W (h : Below w.heap.size w W) => refRight_calls dk di dj dn da A c l dp W hc (Kd.C_below hC h))
 rw [hr] at HRI
 have H0 := Lib.hid (ZW.one (w := w) (W := w.alloc (.cells (dC dk di dj dn da A l.length c dp) 32)) (blk_new w _) (below_alloc (Below.refl _ _) _))
 obtain ⟨n, hn⟩ : ∃ n, l.length = n := ⟨_, rfl⟩
 rw [hn] at HRI H0 ⊢
 clear hC hc hr hn
 go_enter Tryz.func14, Tryz.ntmps14
 try simp only [List.append_eq, List.cons_append, List.nil_append]
 go_upto_region 1 with fail
 generalize w.alloc (.cells #[.int .i64 dk, .int .i64 di, .int .i64 dj, .string dn, .bool da, .slice A n c, .int .i64 dp] 32) = w1 at H0 ⊢
 obtain ⟨a0, a1, a2, a3, a4, a5, a6⟩ := H0.out.held
 have HC := Lib.hid (HRI.out w1 H0.out.bel)
 go_wp2_with (go_at_call 16; refine HC.out.mono ?_)
 first | (rintro e w2 rfl hb2) | (rintro e w2 ⟨rfl, hb2⟩)
 have H2 := Lib.hid (H0.out.step hb2)
 clear hb2 H0 HC HRI a0 a1 a2 a3 a4 a5 a6
 try dsimp only
 go_wp2
 go_ret2
 exact ⟨rfl, H2.out.bel⟩
set_option maxRecDepth 100000 in
set_option maxHeartbeats 16000000 in
theorem refSay_right (dk di dj : Int) (dn : ByteArray) (da : Bool) (A : Option Addr) (c : Nat) (l : List Int) (dp : Int) (sh : ByteArray) (w : World) (hC : Kd.C (Kd.int .i64) w A l.length l) (hc : l.length ≤ c) (hr : rightB dk di dj dn l dp = true) (hsh : note_shown.f l dp = some sh) (hs : dn.size ≤ 5000) (hz : sh.size ≤ 60000) :
    Calls Tryz.prog 14 #[.agg #[.int .i64 dk, .int .i64 di, .int .i64 dj, .string dn, .bool da, .slice A l.length c, .int .i64 dp]] w fun e w' => e = .returned (.tuple #[.string (docSA da (docS dk (numS di) (numS dj) dn sh)), .int .i64 0]) ∧ Below w.heap.size w w' := by
  have hT := Tryz.underlying32
  have hT3 := Tryz.underlying30
  have HRI := Lib.hid (fun W (h : Below w.heap.size w W) => refRight_calls dk di dj dn da A c l dp W hc (Kd.C_below hC h))
  rw [hr] at HRI
  have H0 := Lib.hid (ZW.one (w := w) (W := w.alloc (.cells (dC dk di dj dn da A l.length c dp) 32)) (blk_new w _) (below_alloc (Below.refl _ _) _))
  have HN1 : Hid (∀ W, Calls Tryz.prog 29 #[.int .i64 di] W fun e w' => e = .returned (.string (numS di)) ∧ Below W.heap.size W w') := Lib.hid (fun W => caesuraref05_Number.calls 40 di _ W (refNumber_f di))
  have HN2 : Hid (∀ W, Calls Tryz.prog 29 #[.int .i64 dj] W fun e w' => e = .returned (.string (numS dj)) ∧ Below W.heap.size W w') := Lib.hid (fun W => caesuraref05_Number.calls 40 dj _ W (refNumber_f dj))
  obtain ⟨h1, _, _, _, h5⟩ := right_parts dk di dj dn l dp hr
  have h7 : 1 ≤ dk ∧ dk ≤ 7 := by simpa [kindK] using h1
  have HWI : Hid (kindT dk = true → ∀ W (h : Below w.heap.size w W), Calls Tryz.prog 30 #[.agg #[.slice A l.length c, .int .i64 dp]] W fun e w' => e = .returned (.string sh) ∧ Below W.heap.size W w') := Lib.hid (fun hk W h => by
    rw [hk, if_pos rfl] at h5
    exact refWit_calls A c l dp sh W (Kd.C_below hC h) hc h5 hsh)
  obtain ⟨n, hn⟩ : ∃ n, l.length = n := ⟨_, rfl⟩
  rw [hn] at HRI HWI H0 ⊢
  have m1 := numS_len di
  have m2 := numS_len dj
  have HD : Hid (docS dk (numS di) (numS dj) dn sh = docS dk (numS di) (numS dj) dn sh) := Lib.hid rfl
  have hdl := docS_len dk (numS di) (numS dj) dn sh m1 m2 hs hz
  obtain ⟨R, hR⟩ : ∃ R, docS dk (numS di) (numS dj) dn sh = R := ⟨_, rfl⟩
  rw [hR] at hdl ⊢
  have HR := Lib.hid hR
  generalize numS di = n1 at *
  generalize numS dj = n2 at *
  have hr10 : R.size + 10 ≤ 9223372036854775807 := by omega
  have z5 : 5 + n1.size ≤ 9223372036854775807 := by omega
  clear hC hc hr hn hsh h1 h5 hR HD hdl
  go_enter Tryz.func14, Tryz.ntmps14
  try simp only [List.append_eq, List.cons_append, List.nil_append]
  go_upto_region 1 with fail
  generalize w.alloc (.cells #[.int .i64 dk, .int .i64 di, .int .i64 dj, .string dn, .bool da, .slice A n c, .int .i64 dp] 32) = w1 at H0 ⊢
  obtain ⟨a0, a1, a2, a3, a4, a5, a6⟩ := H0.out.held
  have HC := Lib.hid (HRI.out w1 H0.out.bel)
  go_wp2_with (go_at_call 16; refine HC.out.mono ?_)
  first | (rintro e w2 rfl hb2) | (rintro e w2 ⟨rfl, hb2⟩)
  have H2 := Lib.hid (H0.out.step hb2)
  clear hb2 H0 HC HRI a0 a1 a2 a3 a4 a5 a6
  try dsimp only
  have a1 := H2.out.held.2.1
  go_wp2_with (go_at_call 29; refine (HN1.out _).mono ?_)
  first | (rintro e w3 rfl hb3) | (rintro e w3 ⟨rfl, hb3⟩)
  have H3 := Lib.hid (H2.out.step hb3)
  clear hb3 H2 HN1 a1
  try dsimp only
  have HK := Lib.hid h7
  clear h7
  have a0 := H3.out.held.1
  go_upto_block 0 with fail
  clear a0
  go_cut [4] (fun v wc => v = .string R ∧ ZW w [(w.heap.size, dC dk di dj dn da A n c dp) ] wc)
  case first =>
   rcases kind_cases dk HK.out.1 HK.out.2 with hk | hk | hk | hk | hk | hk | hk
   · have hR : docS dk n1 n2 dn sh = docS 1 n1 n2 dn sh := by rw [hk]
     have HR2 := Lib.hid (HR.out.symm.trans hR)
     have e1 : (dk == 1) = true := by rw [hk]; rfl
     have e2 : (dk == 2) = false := by rw [hk]; rfl
     have e3 : (dk == 3) = false := by rw [hk]; rfl
     have e4 : (dk == 4) = false := by rw [hk]; rfl
     have e5 : (dk == 5) = false := by rw [hk]; rfl
     have e6 : (dk == 6) = false := by rw [hk]; rfl
     have e7 : (dk == 7) = false := by rw [hk]; rfl
     clear hk hR HR HWI HK HN2
     have z1 : ((⟨#[114, 117, 108, 101, 32]⟩ : ByteArray) ++ n1).size + 14 ≤ 9223372036854775807 := by rw [ByteArray.size_append]; show 5 + n1.size + 14 ≤ _; omega
     go_wp2
     go_meet
     case rel => exact ⟨by rw [HR2.out]; rfl, H3.out⟩
   · have hR : docS dk n1 n2 dn sh = docS 2 n1 n2 dn sh := by rw [hk]
     have HR2 := Lib.hid (HR.out.symm.trans hR)
     have e1 : (dk == 1) = false := by rw [hk]; rfl
     have e2 : (dk == 2) = true := by rw [hk]; rfl
     have e3 : (dk == 3) = false := by rw [hk]; rfl
     have e4 : (dk == 4) = false := by rw [hk]; rfl
     have e5 : (dk == 5) = false := by rw [hk]; rfl
     have e6 : (dk == 6) = false := by rw [hk]; rfl
     have e7 : (dk == 7) = false := by rw [hk]; rfl
     have HT := Lib.hid (HWI.out (by rw [hk]; rfl))
     clear hk hR HR HWI HK
     go_upto_region 9 with fail
     have z1 : (9223372036854775807 < 5 + n1.size + 14) = False := eq_false (by omega)
     have z2 : (9223372036854775807 < 5 + n1.size + 14 + n2.size) = False := eq_false (by omega)
     have z3 : (9223372036854775807 < 5 + n1.size + 14 + n2.size + 4) = False := eq_false (by omega)
     have z4 : (9223372036854775807 < 5 + n1.size + 14 + n2.size + 4 + sh.size) = False := eq_false (by omega)
     refine rs_ (S := fun W => ZW w [(w.heap.size, dC dk di dj dn da A n c dp)] W) [0, 1, 2, 7, 3, 8, 4, 5, 6, 9, 10, 11] (H3.out.step (Below.refl _ _).drew) fun hHeld => ?_
     clear H3
     repeat (first
       | refine rp_ ?_
       | refine rt_ hHeld ?_ (hy := by intro w' h; obtain ⟨s0, s1, s2, s3, s4, s5, s6⟩ := h.held; go_simp; with_reducible rfl)
       | (first | refine rc_ #[.int .i64 dj] ((HN2.out _).mono ?_) | refine rc_ #[.agg #[.slice A n c, .int .i64 dp]] ((HT.out _ hHeld.bel).mono ?_)
          rintro e wq ⟨rfl, hbq⟩
          refine rk_ (hHeld.step hbq) fun h_ => ?_
          clear hbq hHeld
          have hHeld := h_
          clear h_))
     refine rd_ ?_
     have H4 := Lib.hid hHeld
     clear hHeld
     go_wp2
     go_meet
     case rel => exact ⟨by rw [HR2.out]; rfl, H4.out⟩
   · have hR : docS dk n1 n2 dn sh = docS 3 n1 n2 dn sh := by rw [hk]
     have HR2 := Lib.hid (HR.out.symm.trans hR)
     have e1 : (dk == 1) = false := by rw [hk]; rfl
     have e2 : (dk == 2) = false := by rw [hk]; rfl
     have e3 : (dk == 3) = true := by rw [hk]; rfl
     have e4 : (dk == 4) = false := by rw [hk]; rfl
     have e5 : (dk == 5) = false := by rw [hk]; rfl
     have e6 : (dk == 6) = false := by rw [hk]; rfl
     have e7 : (dk == 7) = false := by rw [hk]; rfl
     clear hk hR HR HWI HK HN2
     have z1 : ((⟨#[114, 117, 108, 101, 32]⟩ : ByteArray) ++ n1).size + 16 ≤ 9223372036854775807 := by rw [ByteArray.size_append]; show 5 + n1.size + 16 ≤ _; omega
     go_wp2
     go_meet
     case rel => exact ⟨by rw [HR2.out]; rfl, H3.out⟩
   · have hR : docS dk n1 n2 dn sh = docS 4 n1 n2 dn sh := by rw [hk]
     have HR2 := Lib.hid (HR.out.symm.trans hR)
     have e1 : (dk == 1) = false := by rw [hk]; rfl
     have e2 : (dk == 2) = false := by rw [hk]; rfl
     have e3 : (dk == 3) = false := by rw [hk]; rfl
     have e4 : (dk == 4) = true := by rw [hk]; rfl
     have e5 : (dk == 5) = false := by rw [hk]; rfl
     have e6 : (dk == 6) = false := by rw [hk]; rfl
     have e7 : (dk == 7) = false := by rw [hk]; rfl
     clear hk hR HR HWI HK HN2
     have a3 := H3.out.held.2.2.2.1
     have z1 : 14 + dn.size ≤ 9223372036854775807 := by omega
     go_wp2
     go_meet
     case rel => exact ⟨by rw [HR2.out]; rfl, H3.out⟩
   · have hR : docS dk n1 n2 dn sh = docS 5 n1 n2 dn sh := by rw [hk]
     have HR2 := Lib.hid (HR.out.symm.trans hR)
     have e1 : (dk == 1) = false := by rw [hk]; rfl
     have e2 : (dk == 2) = false := by rw [hk]; rfl
     have e3 : (dk == 3) = false := by rw [hk]; rfl
     have e4 : (dk == 4) = false := by rw [hk]; rfl
     have e5 : (dk == 5) = true := by rw [hk]; rfl
     have e6 : (dk == 6) = false := by rw [hk]; rfl
     have e7 : (dk == 7) = false := by rw [hk]; rfl
     clear hk hR HR HWI HK HN2
     have a3 := H3.out.held.2.2.2.1
     have z1 : 1 + dn.size ≤ 9223372036854775807 := by omega
     have z2 : ((⟨#[36]⟩ : ByteArray) ++ dn).size + 18 ≤ 9223372036854775807 := by rw [ByteArray.size_append]; show 1 + dn.size + 18 ≤ _; omega
     go_wp2
     go_meet
     case rel => exact ⟨by rw [HR2.out]; rfl, H3.out⟩
   · have hR : docS dk n1 n2 dn sh = docS 6 n1 n2 dn sh := by rw [hk]
     have HR2 := Lib.hid (HR.out.symm.trans hR)
     have e1 : (dk == 1) = false := by rw [hk]; rfl
     have e2 : (dk == 2) = false := by rw [hk]; rfl
     have e3 : (dk == 3) = false := by rw [hk]; rfl
     have e4 : (dk == 4) = false := by rw [hk]; rfl
     have e5 : (dk == 5) = false := by rw [hk]; rfl
     have e6 : (dk == 6) = true := by rw [hk]; rfl
     have e7 : (dk == 7) = false := by rw [hk]; rfl
     have HT := Lib.hid (HWI.out (by rw [hk]; rfl))
     clear hk hR HR HWI HK HN2
     have a5 := H3.out.held.2.2.2.2.2.1
     have a6 := H3.out.held.2.2.2.2.2.2
     have z1 : 27 + sh.size ≤ 9223372036854775807 := by omega
     have HC := Lib.hid (HT.out w3 H3.out.bel)
     go_wp2_with (go_at_call 30; refine HC.out.mono ?_)
     first | (rintro e w4 rfl hb4) | (rintro e w4 ⟨rfl, hb4⟩)
     have H4 := Lib.hid (H3.out.step hb4)
     clear hb4 HC HT H3 a5 a6
     try dsimp only
     go_wp2
     go_meet
     case rel => exact ⟨by rw [HR2.out]; rfl, H4.out⟩
   · have hR : docS dk n1 n2 dn sh = docS 7 n1 n2 dn sh := by rw [hk]
     have HR2 := Lib.hid (HR.out.symm.trans hR)
     have e1 : (dk == 1) = false := by rw [hk]; rfl
     have e2 : (dk == 2) = false := by rw [hk]; rfl
     have e3 : (dk == 3) = false := by rw [hk]; rfl
     have e4 : (dk == 4) = false := by rw [hk]; rfl
     have e5 : (dk == 5) = false := by rw [hk]; rfl
     have e6 : (dk == 6) = false := by rw [hk]; rfl
     have e7 : (dk == 7) = true := by rw [hk]; rfl
     have HT := Lib.hid (HWI.out (by rw [hk]; rfl))
     clear hk hR HR HWI HK HN2
     have a5 := H3.out.held.2.2.2.2.2.1
     have a6 := H3.out.held.2.2.2.2.2.2
     have z1 : 28 + sh.size ≤ 9223372036854775807 := by omega
     have HC := Lib.hid (HT.out w3 H3.out.bel)
     go_wp2_with (go_at_call 30; refine HC.out.mono ?_)
     first | (rintro e w4 rfl hb4) | (rintro e w4 ⟨rfl, hb4⟩)
     have H4 := Lib.hid (H3.out.step hb4)
     clear hb4 HC HT H3 a5 a6
     try dsimp only
     go_wp2
     go_meet
     case rel => exact ⟨by rw [HR2.out]; rfl, H4.out⟩
  case rest =>
  clear H3 HN2 HWI HR
  obtain ⟨rfl, hH⟩ := hcut
  have H4 := Lib.hid hH
  clear hH
  generalize wc = v4 at H4 ⊢
  have a4 := H4.out.held.2.2.2.2.1
  cases da with
  | true =>
    go_wp2
    go_ret2
    exact ⟨rfl, H4.out.bel⟩
  | false =>
    go_wp2
    go_ret2
    exact ⟨rfl, H4.out.bel⟩
end Go.Proofs.YtlenlhnpmblicaaGreatDoor.NB
namespace Go.Proofs.YtlenlhnpmblicaaGreatDoor.XA
set_option linter.unusedVariables false
open Go.RowKit
open Go.Proofs.YtlenlhnpmblicaaGreatDoorW.PrintWords
def caesuraref27_Say.f (a0_0 : Int) (a0_1 : Int) (a0_2 : Int) (a0_3 : ByteArray) (a0_4 : Bool) (l0_5 : List Int) (a0_6 : Int) : Option (ByteArray × Int) := if rightB a0_0 a0_1 a0_2 a0_3 l0_5 a0_6 = true then (note_shown.f l0_5 a0_6).bind fun sh => (if a0_3.size ≤ 5000 ∧ sh.size ≤ 60000 then some (NB.docSA a0_4 (NB.docS a0_0 (numS a0_1) (numS a0_2) a0_3 sh), 0) else none) else some (⟨#[]⟩, 1)
theorem caesuraref27_Say.calls (a0_0 : Int) (a0_1 : Int) (a0_2 : Int) (a0_3 : ByteArray) (a0_4 : Bool) (A0_5 : Option Addr) (c0_5 : Nat) (l0_5 : List Int) (a0_6 : Int) (r1 : ByteArray) (r2 : Int) (w : World) (hr0_5 : Kd.C (Kd.int .i64) w A0_5 l0_5.length l0_5) (hc0_5 : l0_5.length ≤ c0_5) (h : caesuraref27_Say.f a0_0 a0_1 a0_2 a0_3 a0_4 l0_5 a0_6 = some (r1, r2)) :
  Calls Tryz.prog 14 #[.agg #[.int .i64 a0_0, .int .i64 a0_1, .int .i64 a0_2, .string a0_3, .bool a0_4, .slice A0_5 l0_5.length c0_5, .int .i64 a0_6]] w fun e w' => e = .returned (.tuple #[.string r1, .int .i64 r2]) ∧ Below w.heap.size w w' := by
 unfold caesuraref27_Say.f at h
 cases hr : rightB a0_0 a0_1 a0_2 a0_3 l0_5 a0_6 with
 | false =>
  rw [hr, if_neg (by decide)] at h
  cases h
  exact NB.refSay_wrong a0_0 a0_1 a0_2 a0_3 a0_4 A0_5 c0_5 l0_5 a0_6 w hr0_5 hc0_5 hr
 | true =>
  rw [hr, if_pos rfl] at h
  obtain ⟨sh, hsh, h⟩ := Option.bind_eq_some_iff.1 h
  by_cases h1 : a0_3.size ≤ 5000 ∧ sh.size ≤ 60000
  rotate_left
  ·rw [if_neg h1] at h; cases h
  rw [if_pos h1] at h
  cases h
  exact NB.refSay_right a0_0 a0_1 a0_2 a0_3 a0_4 A0_5 c0_5 l0_5 a0_6 sh w hr0_5 hc0_5 hr hsh h1.1 h1.2
end Go.Proofs.YtlenlhnpmblicaaGreatDoor.XA
end
