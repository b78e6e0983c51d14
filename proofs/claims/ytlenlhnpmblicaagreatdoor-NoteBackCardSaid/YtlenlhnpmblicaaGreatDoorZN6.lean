/- Texts of this claim, packed. -/
import Derived.Test.YtlenlhnpmblicaaGreatDoorZN3
import Derived.Test.YtlenlhnpmblicaaGreatDoorZN5
import Derived.Deep.RegionHeld3
import Derived.Test.YtlenlhnpmblicaaGreatDoorProg
import Derived.Carry
import Derived.WalkKit
import Derived.Test.YtlenlhnpmblicaaGreatDoorZN1
section
set_option linter.unusedVariables false
set_option linter.unusedSimpArgs false
namespace Go.Proofs.YtlenlhnpmblicaaGreatDoor.XA
set_option linter.unusedSimpArgs false
set_option linter.unusedVariables false
open Go.RowKit
open Go.Proofs.YtlenlhnpmblicaaGreatDoorW.PrintWords Go.Proofs.YtlenlhnpmblicaaGreatDoorW.PrintLast Go.Proofs.YtlenlhnpmblicaaGreatDoorW.PrintMore
theorem two_blocks (w : World) (o0 o1 : Obj) : ((w.alloc o0).alloc o1).heap[w.heap.size]? = some o0 ∧ ((w.alloc o0).alloc o1).heap[w.heap.size + 1]? = some o1 ∧ Below w.heap.size w ((w.alloc o0).alloc o1) := by
  have e : ∀ i : Nat, ((w.alloc o0).alloc o1).heap[i]? = ((w.heap.push o0).push o1)[i]? := fun _ => rfl
  refine ⟨?_, ?_, below_alloc (below_alloc (Below.refl _ _) _) _⟩
  · rw [e]; simp [Array.getElem?_push]
  · rw [e, Array.getElem?_push, if_pos (by simp)]
def sameD (x y : S32) : Bool := x.f0 == y.f0 && x.f1 == y.f1 && x.f2 == y.f2 && x.f3.toList == y.f3.toList && x.f4 == y.f4 && (decide (x.f5.f0 = y.f5.f0) && x.f5.f1 == y.f5.f1)
def sameDs : List S32 → List S32 → Bool
  | [], [] => true
  | a :: ps, b :: qs => sameD a b && sameDs ps qs
  | [], _ :: _ => false
  | _ :: _, [] => false
theorem sameDs_len : ∀ (ps qs : List S32), ps.length ≠ qs.length → sameDs ps qs = false
  | [], [], h => absurd rfl h
  | a :: ps, b :: qs, h => by rw [sameDs, sameDs_len ps qs (by simpa using h), Bool.and_false]
  | [], b :: qs, _ => by rw [sameDs]
  | a :: ps, [], _ => by rw [sameDs]
theorem sameDs_at (ps qs : List S32) (i : Nat) (h : i < ps.length) (h' : i < qs.length) : sameDs (ps.drop i) (qs.drop i) = (sameD (rd_T32 ps (i : Int)) (rd_T32 qs (i : Int)) && sameDs (ps.drop (i + 1)) (qs.drop (i + 1))) := by
  rw [List.drop_eq_getElem_cons h, List.drop_eq_getElem_cons h', sameDs, rdT_getElem _ _ h, rdT_getElem _ _ h']
set_option maxRecDepth 100000 in
set_option maxHeartbeats 8000000 in
theorem same_calls (l0 l1 : List S32) (A0 : Option Addr) (c0 : Nat) (A1 : Option Addr) (c1 : Nat) (w : World) (h0 : Kd.C k32 w A0 l0.length l0) (h1 : Kd.C k32 w A1 l1.length l1) :
    Calls Tryz.prog 23 #[.slice A0 l0.length c0, .slice A1 l1.length c1] w fun e w' => e = .returned (.bool (sameDs l0 l1)) ∧ Below w.heap.size w w' := by
  have hm0 : l0.length ≤ 9223372036854775807 := h0.2.1
  have hm1 : l1.length ≤ 9223372036854775807 := h1.2.1
  have hT := Tryz.underlying32
  have hT2 := Tryz.underlying30
  obtain ⟨n, hn⟩ : ∃ n, l0.length = n := ⟨_, rfl⟩
  obtain ⟨m, hm⟩ : ∃ m, l1.length = m := ⟨_, rfl⟩
  by_cases hnm : n = m
  rotate_left
  · have hS := sameDs_len l0 l1 (by omega)
    have e0 : ((n : Int) != (m : Int)) = true := bne_iff_ne.mpr (by omega)
    rw [hS, hn, hm]
    rw [hn] at hm0
    rw [hm] at hm1
    clear hnm hn hm hS h0 h1
    go_enter Tryz.func23, Tryz.ntmps23
    go_wp2
    go_ret
    exact ⟨rfl, Below.refl _ _⟩
  · subst hnm
    have H0 : Hid (Kd.C k32 w A0 n l0) := Lib.hid (by rw [← hn]; exact h0)
    have H1 : Hid (Kd.C k32 w A1 n l1) := Lib.hid (by rw [← hm]; exact h1)
    have HN := Lib.hid hn
    have HM := Lib.hid hm
    have e0 : ((n : Int) != (n : Int)) = false := by simp
    have hnn : n ≤ 9223372036854775807 := by omega
    obtain ⟨z, hz⟩ : ∃ z, sameDs l0 l1 = z := ⟨_, rfl⟩
    have HZ : Hid (sameDs (l0.drop 0) (l1.drop 0) = z) := Lib.hid hz
    rw [hn, hm, hz]
    clear h0 h1 hn hm hm0 hm1 hz
    go_enter Tryz.func23, Tryz.ntmps23
    try simp only [List.append_eq, List.cons_append, List.nil_append]
    go_wp2_with fail
    go_loopg [5] n (fun j v5 wr => ∃ i : Nat, v5 = .int .i64 (i : Int) ∧ i + j = n ∧ Hid (sameDs (l0.drop i) (l1.drop i) = z) ∧ Hid (Below w.heap.size w wr))
    case atStart => exact ⟨0, rfl, by omega, HZ, Lib.hid (Below.refl _ _)⟩
    case round =>
      clear HZ
      obtain ⟨i, rfl, hij, HZ, HB⟩ := hrel
      by_cases hi : i < n
      rotate_left
      · have hz2 := HZ.out
        have hin : i = n := by omega
        rw [List.drop_of_length_le (by have := HN.out; omega), List.drop_of_length_le (by have := HM.out; omega), sameDs] at hz2
        have HZ2 := Lib.hid hz2
        have p1 : ((i : Int) < (n : Int)) = False := eq_false (by omega)
        clear hz2 HZ hin hij
        go_wp2
        go_ret
        exact ⟨congrArg (fun b => Ending.returned (Value.bool b)) HZ2.out, HB.out⟩
      · have C0 := Kd.C_below H0.out HB.out
        have C1 := Kd.C_below H1.out HB.out
        obtain ⟨ad, A5, c5, rfl, a0, a1, a2, a3, a4, a5, a6, l5, g5⟩ := at_T32 C0 (i : Int) (by omega) (by omega)
        obtain ⟨ae, B5, d5, rfl, e0_, e1_, e2_, e3_, e4_, e5, e6_, m5, k5⟩ := at_T32 C1 (i : Int) (by omega) (by omega)
        have hz2 := HZ.out
        rw [sameDs_at l0 l1 i (by have := HN.out; omega) (by have := HM.out; omega)] at hz2
        generalize rd_T32 l0 (i : Int) = x at *
        generalize rd_T32 l1 (i : Int) = y at *
        obtain ⟨x0, x1, x2, x3, x4, ⟨x5, x6⟩⟩ := x
        obtain ⟨y0, y1, y2, y3, y4, ⟨y5, y6⟩⟩ := y
        dsimp only at a0 a1 a2 a3 a4 a5 a6 l5 g5 e0_ e1_ e2_ e3_ e4_ e5 e6_ m5 k5
        rw [Int.toNat_natCast] at a0 a1 a2 a3 a4 a5 a6 e0_ e1_ e2_ e3_ e4_ e5 e6_
        obtain ⟨u5, hu5⟩ : ∃ u, x5.length = u := ⟨_, rfl⟩
        obtain ⟨v5, hv5⟩ : ∃ u, y5.length = u := ⟨_, rfl⟩
        obtain ⟨s0, hs0⟩ : ∃ b, (decide (x5 = y5) && x6 == y6) = b := ⟨_, rfl⟩
        have hz3 : ((x0 == y0 && x1 == y1 && x2 == y2 && x3.toList == y3.toList && x4 == y4 && s0) && sameDs (l0.drop (i + 1)) (l1.drop (i + 1))) = z := by rw [← hs0]; exact hz2
        have HS0 : Hid (∀ W, Below wr.heap.size wr W → Calls Tryz.prog 48 #[.agg #[.slice A5 u5 c5, .int .i64 x6], .agg #[.slice B5 v5 d5, .int .i64 y6]] W fun e w' => e = .returned (.bool s0) ∧ Below W.heap.size W w') := Lib.hid (fun W hW => by
          have h := wsame_calls A5 c5 x5 x6 B5 d5 y5 y6 W (Kd.C_below g5 hW) l5 (Kd.C_below k5 hW) m5
          rw [hu5, hv5, hs0] at h
          exact h)
        rw [hu5] at a5
        rw [hv5] at e5
        have HZ2 := Lib.hid hz3
        have hij2 : i ≤ 9223372036854775806 := by omega
        clear hz2 hz3 HZ hs0 hu5 hv5 g5 k5 C0 C1 l5 m5
        have b0 : (ad.add (i * 7)).block < wr.heap.size := World.block_lt_of_cell? wr _ a0
        have b1 : (ae.add (i * 7)).block < wr.heap.size := World.block_lt_of_cell? wr _ e0_
        have p1 : (0 : Int) ≤ (i : Int) := by omega
        have p2 : (i : Int) < (n : Int) := by omega
        go_upto_region 6 with fail
        go_cut [6, 7] (fun v6 v7 wc => ∃ gx gy : Nat, v6 = .pointer (some ⟨gx, 0, none⟩) ∧ v7 = .pointer (some ⟨gy, 0, none⟩) ∧ Hid (wc.heap[gx]? = some (.cells #[.int .i64 x0, .int .i64 x1, .int .i64 x2, .string x3, .bool x4, .slice A5 u5 c5, .int .i64 x6] 32 (0, 0))) ∧ Hid (wc.heap[gy]? = some (.cells #[.int .i64 y0, .int .i64 y1, .int .i64 y2, .string y3, .bool y4, .slice B5 v5 d5, .int .i64 y6] 32 (0, 0))) ∧ Hid (Below wr.heap.size wr wc))
        case first =>
          go_region_held3 (fun w' => w'.cell? (ad.add (i * 7)) = some (.int .i64 x0) ∧ w'.cell? ⟨(ad.add (i * 7)).block, (ad.add (i * 7)).off + 1, none⟩ = some (.int .i64 x1) ∧ w'.cell? ⟨(ad.add (i * 7)).block, (ad.add (i * 7)).off + 2, none⟩ = some (.int .i64 x2) ∧ w'.cell? ⟨(ad.add (i * 7)).block, (ad.add (i * 7)).off + 3, none⟩ = some (.string x3) ∧ w'.cell? ⟨(ad.add (i * 7)).block, (ad.add (i * 7)).off + 4, none⟩ = some (.bool x4) ∧ w'.cell? ⟨(ad.add (i * 7)).block, (ad.add (i * 7)).off + 5, none⟩ = some (.slice A5 u5 c5) ∧ w'.cell? ⟨(ad.add (i * 7)).block, (ad.add (i * 7)).off + 6, none⟩ = some (.int .i64 x6) ∧ w'.cell? (ae.add (i * 7)) = some (.int .i64 y0) ∧ w'.cell? ⟨(ae.add (i * 7)).block, (ae.add (i * 7)).off + 1, none⟩ = some (.int .i64 y1) ∧ w'.cell? ⟨(ae.add (i * 7)).block, (ae.add (i * 7)).off + 2, none⟩ = some (.int .i64 y2) ∧ w'.cell? ⟨(ae.add (i * 7)).block, (ae.add (i * 7)).off + 3, none⟩ = some (.string y3) ∧ w'.cell? ⟨(ae.add (i * 7)).block, (ae.add (i * 7)).off + 4, none⟩ = some (.bool y4) ∧ w'.cell? ⟨(ae.add (i * 7)).block, (ae.add (i * 7)).off + 5, none⟩ = some (.slice B5 v5 d5) ∧ w'.cell? ⟨(ae.add (i * 7)).block, (ae.add (i * 7)).off + 6, none⟩ = some (.int .i64 y6)) (go_keep) (fail)
          · go_wp2
            go_meet
            case rel => exact ⟨_, _, rfl, rfl, Lib.hid (two_blocks wr (.cells #[.int .i64 x0, .int .i64 x1, .int .i64 x2, .string x3, .bool x4, .slice A5 u5 c5, .int .i64 x6] 32) (.cells #[.int .i64 y0, .int .i64 y1, .int .i64 y2, .string y3, .bool y4, .slice B5 v5 d5, .int .i64 y6] 32)).1, Lib.hid (two_blocks wr (.cells #[.int .i64 x0, .int .i64 x1, .int .i64 x2, .string x3, .bool x4, .slice A5 u5 c5, .int .i64 x6] 32) (.cells #[.int .i64 y0, .int .i64 y1, .int .i64 y2, .string y3, .bool y4, .slice B5 v5 d5, .int .i64 y6] 32)).2.1, Lib.hid (two_blocks wr (.cells #[.int .i64 x0, .int .i64 x1, .int .i64 x2, .string x3, .bool x4, .slice A5 u5 c5, .int .i64 x6] 32) (.cells #[.int .i64 y0, .int .i64 y1, .int .i64 y2, .string y3, .bool y4, .slice B5 v5 d5, .int .i64 y6] 32)).2.2.drew⟩
          · go_wp2
            go_meet
            case rel => exact ⟨_, _, rfl, rfl, Lib.hid (two_blocks wr (.cells #[.int .i64 y0, .int .i64 y1, .int .i64 y2, .string y3, .bool y4, .slice B5 v5 d5, .int .i64 y6] 32) (.cells #[.int .i64 x0, .int .i64 x1, .int .i64 x2, .string x3, .bool x4, .slice A5 u5 c5, .int .i64 x6] 32)).2.1, Lib.hid (two_blocks wr (.cells #[.int .i64 y0, .int .i64 y1, .int .i64 y2, .string y3, .bool y4, .slice B5 v5 d5, .int .i64 y6] 32) (.cells #[.int .i64 x0, .int .i64 x1, .int .i64 x2, .string x3, .bool x4, .slice A5 u5 c5, .int .i64 x6] 32)).1, Lib.hid (two_blocks wr (.cells #[.int .i64 y0, .int .i64 y1, .int .i64 y2, .string y3, .bool y4, .slice B5 v5 d5, .int .i64 y6] 32) (.cells #[.int .i64 x0, .int .i64 x1, .int .i64 x2, .string x3, .bool x4, .slice A5 u5 c5, .int .i64 x6] 32)).2.2.drew⟩
        case rest =>
          clear a0 a1 a2 a3 a4 a5 a6 e0_ e1_ e2_ e3_ e4_ e5 e6_ b0 b1 p1 p2
          obtain ⟨gx, gy, rfl, rfl, N0, N1, HBc⟩ := hcut
          have HD := Lib.hid (HB.out.trans (HBc.out.mono HB.out.size))
          have n0 := (blk_cell N0.out 0).trans rfl
          have m0 := (blk_cell N1.out 0).trans rfl
          have n1 := (blk_cell N0.out 1).trans rfl
          have m1 := (blk_cell N1.out 1).trans rfl
          have n2 := (blk_cell N0.out 2).trans rfl
          have m2 := (blk_cell N1.out 2).trans rfl
          have n3 := (blk_cell N0.out 3).trans rfl
          have m3 := (blk_cell N1.out 3).trans rfl
          have n4 := (blk_cell N0.out 4).trans rfl
          have m4 := (blk_cell N1.out 4).trans rfl
          have n5 := (blk_cell N0.out 5).trans rfl
          have m5 := (blk_cell N1.out 5).trans rfl
          have n6 := (blk_cell N0.out 6).trans rfl
          have m6 := (blk_cell N1.out 6).trans rfl
          cases hq0 : (x0 == y0) with
          | false =>
            have d0 : (x0 != y0) = true := by rw [bne, hq0]; rfl
            have HZ3 : Hid (false = z) := Lib.hid (by rw [← HZ2.out, hq0]; simp)
            clear HZ2
            go_wp2
            go_ret
            exact ⟨congrArg (fun b => Ending.returned (Value.bool b)) HZ3.out, HD.out⟩
          | true =>
          have d0 : (x0 != y0) = false := by rw [bne, hq0]; rfl
          cases hq1 : (x1 == y1) with
          | false =>
            have d1 : (x1 != y1) = true := by rw [bne, hq1]; rfl
            have HZ3 : Hid (false = z) := Lib.hid (by rw [← HZ2.out, hq0, hq1]; simp)
            clear HZ2
            go_wp2
            go_ret
            exact ⟨congrArg (fun b => Ending.returned (Value.bool b)) HZ3.out, HD.out⟩
          | true =>
          have d1 : (x1 != y1) = false := by rw [bne, hq1]; rfl
          cases hq2 : (x2 == y2) with
          | false =>
            have d2 : (x2 != y2) = true := by rw [bne, hq2]; rfl
            have HZ3 : Hid (false = z) := Lib.hid (by rw [← HZ2.out, hq0, hq1, hq2]; simp)
            clear HZ2
            go_wp2
            go_ret
            exact ⟨congrArg (fun b => Ending.returned (Value.bool b)) HZ3.out, HD.out⟩
          | true =>
          have d2 : (x2 != y2) = false := by rw [bne, hq2]; rfl
          cases hq3 : (x3.toList == y3.toList) with
          | false =>
            have d3 : (x3.toList != y3.toList) = true := by rw [bne, hq3]; rfl
            have HZ3 : Hid (false = z) := Lib.hid (by rw [← HZ2.out, hq0, hq1, hq2, hq3]; simp)
            clear HZ2
            go_wp2
            go_ret
            exact ⟨congrArg (fun b => Ending.returned (Value.bool b)) HZ3.out, HD.out⟩
          | true =>
          have d3 : (x3.toList != y3.toList) = false := by rw [bne, hq3]; rfl
          cases hq4 : (x4 == y4) with
          | false =>
            have d4 : (x4 != y4) = true := by rw [bne, hq4]; rfl
            have HZ3 : Hid (false = z) := Lib.hid (by rw [← HZ2.out, hq0, hq1, hq2, hq3, hq4]; simp)
            clear HZ2
            go_wp2
            go_ret
            exact ⟨congrArg (fun b => Ending.returned (Value.bool b)) HZ3.out, HD.out⟩
          | true =>
          have d4 : (x4 != y4) = false := by rw [bne, hq4]; rfl
          have HZ3 : Hid ((s0 && sameDs (l0.drop (i + 1)) (l1.drop (i + 1))) = z) := Lib.hid (by rw [← HZ2.out, hq0, hq1, hq2, hq3, hq4]; simp)
          clear HZ2
          have HSW := Lib.hid (HS0.out wc HBc.out)
          cases s0 with
          | false =>
            have HZ4 : Hid (false = z) := Lib.hid (by rw [← HZ3.out]; simp)
            clear HZ3
            go_wp2_with (go_at_call 48; refine HSW.out.mono ?_)
            rintro e w3 ⟨rfl, hb⟩
            have HD3 := Lib.hid (HD.out.trans (hb.mono HD.out.size))
            clear hb
            try dsimp only
            go_wp2
            go_ret
            exact ⟨congrArg (fun b => Ending.returned (Value.bool b)) HZ4.out, HD3.out⟩
          | true =>
          have HZ5 : Hid (sameDs (l0.drop (i + 1)) (l1.drop (i + 1)) = z) := Lib.hid (by rw [← HZ3.out]; simp)
          clear HZ3
          go_wp2_with (go_at_call 48; refine HSW.out.mono ?_)
          rintro e w4 ⟨rfl, hb⟩
          have HD4 := Lib.hid (HD.out.trans (hb.mono HD.out.size))
          clear hb
          try dsimp only
          go_wp2
          go_roundg (n - (i + 1))
          case measure => omega
          case rel => exact ⟨i + 1, by go_num, by omega, HZ5, HD4⟩
def caesuraref27_Same.f (l0 l1 : List S32) : Option Bool := some (sameDs l0 l1)
theorem caesuraref27_Same.calls (A0 : Option Addr) (c0 : Nat) (l0 : List S32) (A1 : Option Addr) (c1 : Nat) (l1 : List S32) (r : Bool) (w : World) (hr0 : Kd.C k32 w A0 l0.length l0) (_hc0 : l0.length ≤ c0) (hr1 : Kd.C k32 w A1 l1.length l1) (_hc1 : l1.length ≤ c1) (h : caesuraref27_Same.f l0 l1 = some r) :
    Calls Tryz.prog 23 #[.slice A0 l0.length c0, .slice A1 l1.length c1] w fun e w' => e = .returned (.bool r) ∧ Below w.heap.size w w' := by
  unfold caesuraref27_Same.f at h
  cases h
  exact same_calls l0 l1 A0 c0 A1 c1 w hr0 hr1
end Go.Proofs.YtlenlhnpmblicaaGreatDoor.XA
end
section
set_option linter.unusedVariables false
set_option linter.unusedSimpArgs false
namespace Go.Proofs.YtlenlhnpmblicaaGreatDoor.XA
set_option linter.unusedSimpArgs false
theorem less_turn : ∀ a b : List UInt8, Op.bytesLess b a = !(Op.bytesLess a b || a == b)
  | [], [] => by simp [Op.bytesLess]
  | [], y :: b => by simp [Op.bytesLess]
  | x :: a, [] => by simp [Op.bytesLess]
  | x :: a, y :: b => by
    have ih := less_turn a b
    simp only [Op.bytesLess]
    by_cases h1 : x < y
    · have h2 : ¬ y < x := by have := UInt8.lt_iff_toNat_lt.1 h1; intro h; have := UInt8.lt_iff_toNat_lt.1 h; omega
      have h3 : ¬ x = y := by intro e; subst e; exact h2 h1
      have h4 : ¬ y = x := fun e => h3 e.symm
      simp [h1, h2, h3, h4]
    · by_cases h2 : y < x
      · have h3 : ¬ x = y := by intro e; subst e; exact h1 h2
        have h4 : ¬ y = x := fun e => h3 e.symm
        simp [h1, h2, h3, h4]
      · have h3 : x = y := by
          apply UInt8.toNat_inj.1
          have h5 : ¬ x.toNat < y.toNat := fun h => h1 (UInt8.lt_iff_toNat_lt.2 h)
          have h6 : ¬ y.toNat < x.toNat := fun h => h2 (UInt8.lt_iff_toNat_lt.2 h)
          omega
        subst h3
        simp [h1, ih]
theorem gtr_str (t : TypeId) (a b : ByteArray) : binOp .gtr t (.string a) (.string b) = pure (.bool (Op.bytesLess b.toList a.toList)) := by
  rw [less_turn]
  simp [binOp, Op.stringOp]
end Go.Proofs.YtlenlhnpmblicaaGreatDoor.XA
end
section
set_option linter.unusedVariables false
set_option linter.unusedSimpArgs false
namespace Go.Proofs.YtlenlhnpmblicaaGreatDoor.XA
open Go.RowKit Go.Proofs.YtlenlhnpmblicaaGreatDoorW.PrintWords Go.Proofs.YtlenlhnpmblicaaGreatDoorW.PrintLast Go.Proofs.YtlenlhnpmblicaaGreatDoorW.PrintMore
attribute [local go_sem] max2_int min2_int max_two min_two max_three min_three max_four min_four   -- for this text's walks alone
set_option linter.unusedVariables false
set_option linter.unusedSimpArgs false
def cmp_Or_int.l0 : Nat → Int → List Int → Int → Int → Option (Int)
  | 0, _, _, _, _ => none
  | k + 1, x3, x6, x7, x8 => if x8 < x7 then (if 0 ≤ x8 then (if x8 < (x6.length : Int) then (if (rd x6 x8) = x3 then (cmp_Or_int.l0 k x3 x6 x7 (wrap64 (x8 + 1))) else (some (rd x6 x8))) else (none)) else (none)) else (some x3)
def cmp_Or_int.f (k : Nat) (l0 : List Int) : Option (Int) := cmp_Or_int.l0 k 0 l0 (l0.length : Int) 0
theorem cmp_Or_int.mono_l : ∀ k, (∀ y0 y1 y2 y3, LeO (cmp_Or_int.l0 k y0 y1 y2 y3) (cmp_Or_int.l0 (k + 1) y0 y1 y2 y3))
  | 0 => fun _ _ _ _ r h => by simp [cmp_Or_int.l0] at h
  | k + 1 => by
    have ih0 := cmp_Or_int.mono_l k
    · intro y0 y1 y2 y3
      unfold cmp_Or_int.l0
      repeat' first
      | (with_reducible exact ih0 _ _ _ _)
      | (with_reducible exact LeO.refl _)
      | (with_reducible exact LeO.none _)
      | (with_reducible refine LeO.ite ?_ ?_)
      | (with_reducible refine LeO.bind ?_ (fun _ => ?_))
      | exact ih0 _ _ _ _
      | exact LeO.none _
      | refine LeO.ite ?_ ?_
      | refine LeO.bind ?_ (fun _ => ?_)
theorem cmp_Or_int.mono : ∀ a0 k, LeO (cmp_Or_int.f k a0) (cmp_Or_int.f (k + 1) a0) := by
  intro a0 k
  have ih0 := cmp_Or_int.mono_l k
  unfold cmp_Or_int.f
  repeat' first
      | (with_reducible exact ih0 _ _ _ _)
      | (with_reducible exact LeO.refl _)
      | (with_reducible exact LeO.none _)
      | (with_reducible refine LeO.ite ?_ ?_)
      | (with_reducible refine LeO.bind ?_ (fun _ => ?_))
      | exact ih0 _ _ _ _
      | exact LeO.none _
      | refine LeO.ite ?_ ?_
      | refine LeO.bind ?_ (fun _ => ?_)
set_option maxHeartbeats 8000000 in
set_option maxRecDepth 100000 in
theorem cmp_Or_int.calls (k : Nat) (A0 : Option Addr) (c0 : Nat) (l0 : List Int) (r : Int) (w : World) (hr0 : Kd.C (Kd.int .i64) w A0 l0.length l0) (hc0 : l0.length ≤ c0) (h : cmp_Or_int.f k l0 = some r) :
    Calls Tryz.prog 83 #[.slice A0 l0.length c0] w fun e w' => e = .returned (.int .i64 r) ∧ Drawn0 w w' := by
  have HR0 := Aside0.mk hr0
  have HC0 := Aside0.mk hc0
  clear hr0 hc0
  have H : (cmp_Or_int.l0 k 0 l0 (l0.length : Int) 0) = some r := h
  clear h
  have H' := Aside0.mk H
  clear H
  go_enter Tryz.func83, Tryz.ntmps83
  go_wp2
  go_loopg [8] k (fun kq v8 w' => ∃ (x8_1 : Int), v8 = .int .i64 x8_1 ∧ Aside0 (cmp_Or_int.l0 kq 0 l0 (l0.length : Int) x8_1 = some r) ∧ Aside0 (kq ≤ k) ∧ Drawn0 w w')
  case atStart => exact ⟨(0), (by first | rfl | (simp; done) | (simp [*]; done)), H', ⟨Nat.le_refl _⟩, by repeat (first | exact Drawn0.refl _ | apply Drawn0.step)⟩
  case round =>
    clear H'
    obtain ⟨x8_1, rfl, HA, HK1, ⟨m1, rfl⟩⟩ := hrel
    cases gk with
    | zero => exact absurd HA.out (by simp [cmp_Or_int.l0])
    | succ k1 =>
      have H := HA.out
      clear HA
      simp only [cmp_Or_int.l0] at H
      by_cases c2 : x8_1 < (l0.length : Int)
      · rw [if_pos c2] at H
        have c2b0 : decide (x8_1 < (l0.length : Int)) = true := decide_eq_true c2
        clear c2
        by_cases c3 : 0 ≤ x8_1
        · rw [if_pos c3] at H
          have c3b0 : decide (0 ≤ x8_1) = true := decide_eq_true c3
          clear c3
          by_cases c4 : x8_1 < (l0.length : Int)
          · rw [if_pos c4] at H
            have c4b0 : decide (x8_1 < (l0.length : Int)) = true := decide_eq_true c4
            clear c4
            by_cases c5 : (rd l0 x8_1) = 0
            · rw [if_pos c5] at H
              have c5b0 : ((rd l0 x8_1) == 0) = true := beq_iff_eq.mpr c5
              have c5b1 : ((rd l0 x8_1) != 0) = false := bne_eq_false_iff_eq.mpr c5
              clear c5
              have H' := Aside0.mk H
              clear H
              have p164 : 0 ≤ (x8_1 : Int) := of_decide_eq_true (by first | (with_reducible assumption) | assumption)
              have q164 : x8_1 < (l0.length : Int) := of_decide_eq_true (by first | (with_reducible assumption) | assumption)
              obtain ⟨ad164, e164, hx164_0⟩ := Kd.at_int HR0.out x8_1 p164 q164
              cases e164
              replace p164 := eq_true p164
              replace q164 := eq_true q164
              go_wp2
              go_roundg k1
              case measure => have := HK1.out; omega
              case rel => exact ⟨(wrap64 (x8_1 + 1)), (by first | rfl | (simp; done) | (simp [*]; done)), H', ⟨by have := HK1.out; omega⟩, by repeat (first | exact Drawn0.refl _ | apply Drawn0.step)⟩
            · rw [if_neg c5] at H
              have c5b0 : ((rd l0 x8_1) == 0) = false := beq_eq_false_iff_ne.mpr c5
              have c5b1 : ((rd l0 x8_1) != 0) = true := bne_iff_ne.mpr c5
              obtain rfl := Option.some.inj H
              have p164 : 0 ≤ (x8_1 : Int) := of_decide_eq_true (by first | (with_reducible assumption) | assumption)
              have q164 : x8_1 < (l0.length : Int) := of_decide_eq_true (by first | (with_reducible assumption) | assumption)
              obtain ⟨ad164, e164, hx164_0⟩ := Kd.at_int HR0.out x8_1 p164 q164
              cases e164
              replace p164 := eq_true p164
              replace q164 := eq_true q164
              go_wp2
              go_ret
              exact ⟨by first | rfl | (simp; done) | (simp [*]; done), by repeat (first | exact Drawn0.refl _ | apply Drawn0.step)⟩
          · rw [if_neg c4] at H
            exact absurd H (by simp)
        · rw [if_neg c3] at H
          exact absurd H (by simp)
      · rw [if_neg c2] at H
        have c2b0 : decide (x8_1 < (l0.length : Int)) = false := decide_eq_false c2
        clear c2
        obtain rfl := Option.some.inj H
        go_wp2
        go_ret
        exact ⟨by first | rfl | (simp; done) | (simp [*]; done), by repeat (first | exact Drawn0.refl _ | apply Drawn0.step)⟩
def cmp_isNaN_int.f (a0 : Int) : Option (Bool) := some (a0 != a0)
set_option maxHeartbeats 8000000 in
set_option maxRecDepth 100000 in
theorem cmp_isNaN_int.calls (a0 : Int) (r : Bool) (w : World) (h : cmp_isNaN_int.f a0 = some r) :
    Calls Tryz.prog 106 #[.int .i64 a0] w fun e w' => e = .returned (.bool r) ∧ Drawn0 w w' := by
  have H : (some (a0 != a0)) = some r := h
  clear h
  obtain rfl := Option.some.inj H
  go_enter Tryz.func106, Tryz.ntmps106
  go_wp2
  go_ret
  exact ⟨by first | rfl | (simp; done) | (simp [*]; done), by repeat (first | exact Drawn0.refl _ | apply Drawn0.step)⟩
def cmp_Compare_int.f (a0 : Int) (a1 : Int) : Option (Int) := (cmp_isNaN_int.f a0).bind fun t165 => ((cmp_isNaN_int.f a1).bind fun t166 => (if t165 = true then (if t166 = true then (some 0) else (some (-1))) else (if t166 = true then (some 1) else (if a0 < a1 then (some (-1)) else (if a0 > a1 then (some 1) else (some 0))))))
set_option maxHeartbeats 8000000 in
set_option maxRecDepth 100000 in
theorem cmp_Compare_int.calls (a0 : Int) (a1 : Int) (r : Int) (w : World) (h : cmp_Compare_int.f a0 a1 = some r) :
    Calls Tryz.prog 84 #[.int .i64 a0, .int .i64 a1] w fun e w' => e = .returned (.int .i64 r) ∧ Drawn0 w w' := by
  have H : ((cmp_isNaN_int.f a0).bind fun t165 => ((cmp_isNaN_int.f a1).bind fun t166 => (if t165 = true then (if t166 = true then (some 0) else (some (-1))) else (if t166 = true then (some 1) else (if a0 < a1 then (some (-1)) else (if a0 > a1 then (some 1) else (some 0))))))) = some r := h
  clear h
  replace H := Option.bind_eq_some_iff.mp H
  obtain ⟨t165, A30, H⟩ := H
  replace H : ((cmp_isNaN_int.f a1).bind fun t166 => (if t165 = true then (if t166 = true then (some 0) else (some (-1))) else (if t166 = true then (some 1) else (if a0 < a1 then (some (-1)) else (if a0 > a1 then (some 1) else (some 0)))))) = some r := H
  have A3 := Aside0.mk A30
  clear A30
  replace H := Option.bind_eq_some_iff.mp H
  obtain ⟨t166, A40, H⟩ := H
  replace H : (if t165 = true then (if t166 = true then (some 0) else (some (-1))) else (if t166 = true then (some 1) else (if a0 < a1 then (some (-1)) else (if a0 > a1 then (some 1) else (some 0))))) = some r := H
  have A4 := Aside0.mk A40
  clear A40
  by_cases c5 : t165 = true
  · subst c5
    have H1 : (if t166 = true then (some 0) else (some (-1))) = some r := by rw [if_pos rfl] at H; exact H
    clear H
    have H := H1
    clear H1
    by_cases c6 : t166 = true
    · subst c6
      have H1 : (some 0) = some r := by rw [if_pos rfl] at H; exact H
      clear H
      have H := H1
      clear H1
      obtain rfl := Option.some.inj H
      go_enter Tryz.func84, Tryz.ntmps84
      go_wp2_with (first | ((with_reducible refine gate_callee (f := 106) rfl ?_); refine goesL_ (some 8) rfl rfl Tryz.func106 (by kernel_rfl) rfl #[.int .i64 a0] rfl (by (try simp only [List.map_toArray, List.map_cons, List.map_nil]); first | done | rfl | (simp only [List.length_drop, List.length_take]; rfl)) ?_; (with_reducible refine (cmp_isNaN_int.calls a0 true _ A3.out).mono ?_); rintro e w' ⟨rfl, ⟨nd, rfl⟩⟩; refine ⟨_, rfl, ?_⟩) | ((with_reducible refine gate_callee (f := 106) rfl ?_); refine goesL_ (some 10) rfl rfl Tryz.func106 (by kernel_rfl) rfl #[.int .i64 a1] rfl (by (try simp only [List.map_toArray, List.map_cons, List.map_nil]); first | done | rfl | (simp only [List.length_drop, List.length_take]; rfl)) ?_; (with_reducible refine (cmp_isNaN_int.calls a1 true _ A4.out).mono ?_); rintro e w' ⟨rfl, ⟨nd, rfl⟩⟩; refine ⟨_, rfl, ?_⟩))
      go_ret
      exact ⟨by first | rfl | (simp; done) | (simp [*]; done), by repeat (first | exact Drawn0.refl _ | apply Drawn0.step)⟩
    · replace c6 := Bool.eq_false_iff.mpr c6
      subst c6
      have H1 : (some (-1)) = some r := by rw [if_neg (show ¬ (false = true) by decide)] at H; exact H
      clear H
      have H := H1
      clear H1
      obtain rfl := Option.some.inj H
      go_enter Tryz.func84, Tryz.ntmps84
      go_wp2_with (first | ((with_reducible refine gate_callee (f := 106) rfl ?_); refine goesL_ (some 8) rfl rfl Tryz.func106 (by kernel_rfl) rfl #[.int .i64 a0] rfl (by (try simp only [List.map_toArray, List.map_cons, List.map_nil]); first | done | rfl | (simp only [List.length_drop, List.length_take]; rfl)) ?_; (with_reducible refine (cmp_isNaN_int.calls a0 true _ A3.out).mono ?_); rintro e w' ⟨rfl, ⟨nd, rfl⟩⟩; refine ⟨_, rfl, ?_⟩) | ((with_reducible refine gate_callee (f := 106) rfl ?_); refine goesL_ (some 10) rfl rfl Tryz.func106 (by kernel_rfl) rfl #[.int .i64 a1] rfl (by (try simp only [List.map_toArray, List.map_cons, List.map_nil]); first | done | rfl | (simp only [List.length_drop, List.length_take]; rfl)) ?_; (with_reducible refine (cmp_isNaN_int.calls a1 false _ A4.out).mono ?_); rintro e w' ⟨rfl, ⟨nd, rfl⟩⟩; refine ⟨_, rfl, ?_⟩))
      go_ret
      exact ⟨by first | rfl | (simp; done) | (simp [*]; done), by repeat (first | exact Drawn0.refl _ | apply Drawn0.step)⟩
  · replace c5 := Bool.eq_false_iff.mpr c5
    subst c5
    have H1 : (if t166 = true then (some 1) else (if a0 < a1 then (some (-1)) else (if a0 > a1 then (some 1) else (some 0)))) = some r := by rw [if_neg (show ¬ (false = true) by decide)] at H; exact H
    clear H
    have H := H1
    clear H1
    by_cases c7 : t166 = true
    · subst c7
      have H1 : (some 1) = some r := by rw [if_pos rfl] at H; exact H
      clear H
      have H := H1
      clear H1
      obtain rfl := Option.some.inj H
      go_enter Tryz.func84, Tryz.ntmps84
      go_wp2_with (first | ((with_reducible refine gate_callee (f := 106) rfl ?_); refine goesL_ (some 8) rfl rfl Tryz.func106 (by kernel_rfl) rfl #[.int .i64 a0] rfl (by (try simp only [List.map_toArray, List.map_cons, List.map_nil]); first | done | rfl | (simp only [List.length_drop, List.length_take]; rfl)) ?_; (with_reducible refine (cmp_isNaN_int.calls a0 false _ A3.out).mono ?_); rintro e w' ⟨rfl, ⟨nd, rfl⟩⟩; refine ⟨_, rfl, ?_⟩) | ((with_reducible refine gate_callee (f := 106) rfl ?_); refine goesL_ (some 10) rfl rfl Tryz.func106 (by kernel_rfl) rfl #[.int .i64 a1] rfl (by (try simp only [List.map_toArray, List.map_cons, List.map_nil]); first | done | rfl | (simp only [List.length_drop, List.length_take]; rfl)) ?_; (with_reducible refine (cmp_isNaN_int.calls a1 true _ A4.out).mono ?_); rintro e w' ⟨rfl, ⟨nd, rfl⟩⟩; refine ⟨_, rfl, ?_⟩))
      go_ret
      exact ⟨by first | rfl | (simp; done) | (simp [*]; done), by repeat (first | exact Drawn0.refl _ | apply Drawn0.step)⟩
    · replace c7 := Bool.eq_false_iff.mpr c7
      subst c7
      have H1 : (if a0 < a1 then (some (-1)) else (if a0 > a1 then (some 1) else (some 0))) = some r := by rw [if_neg (show ¬ (false = true) by decide)] at H; exact H
      clear H
      have H := H1
      clear H1
      by_cases c8 : a0 < a1
      · rw [if_pos c8] at H
        have c8b0 : decide (a0 < a1) = true := decide_eq_true c8
        clear c8
        obtain rfl := Option.some.inj H
        go_enter Tryz.func84, Tryz.ntmps84
        go_wp2_with (first | ((with_reducible refine gate_callee (f := 106) rfl ?_); refine goesL_ (some 8) rfl rfl Tryz.func106 (by kernel_rfl) rfl #[.int .i64 a0] rfl (by (try simp only [List.map_toArray, List.map_cons, List.map_nil]); first | done | rfl | (simp only [List.length_drop, List.length_take]; rfl)) ?_; (with_reducible refine (cmp_isNaN_int.calls a0 false _ A3.out).mono ?_); rintro e w' ⟨rfl, ⟨nd, rfl⟩⟩; refine ⟨_, rfl, ?_⟩) | ((with_reducible refine gate_callee (f := 106) rfl ?_); refine goesL_ (some 10) rfl rfl Tryz.func106 (by kernel_rfl) rfl #[.int .i64 a1] rfl (by (try simp only [List.map_toArray, List.map_cons, List.map_nil]); first | done | rfl | (simp only [List.length_drop, List.length_take]; rfl)) ?_; (with_reducible refine (cmp_isNaN_int.calls a1 false _ A4.out).mono ?_); rintro e w' ⟨rfl, ⟨nd, rfl⟩⟩; refine ⟨_, rfl, ?_⟩))
        go_ret
        exact ⟨by first | rfl | (simp; done) | (simp [*]; done), by repeat (first | exact Drawn0.refl _ | apply Drawn0.step)⟩
      · rw [if_neg c8] at H
        have c8b0 : decide (a0 < a1) = false := decide_eq_false c8
        clear c8
        by_cases c9 : a0 > a1
        · rw [if_pos c9] at H
          have c9b0 : decide (a1 < a0) = true := decide_eq_true c9
          clear c9
          obtain rfl := Option.some.inj H
          go_enter Tryz.func84, Tryz.ntmps84
          go_wp2_with (first | ((with_reducible refine gate_callee (f := 106) rfl ?_); refine goesL_ (some 8) rfl rfl Tryz.func106 (by kernel_rfl) rfl #[.int .i64 a0] rfl (by (try simp only [List.map_toArray, List.map_cons, List.map_nil]); first | done | rfl | (simp only [List.length_drop, List.length_take]; rfl)) ?_; (with_reducible refine (cmp_isNaN_int.calls a0 false _ A3.out).mono ?_); rintro e w' ⟨rfl, ⟨nd, rfl⟩⟩; refine ⟨_, rfl, ?_⟩) | ((with_reducible refine gate_callee (f := 106) rfl ?_); refine goesL_ (some 10) rfl rfl Tryz.func106 (by kernel_rfl) rfl #[.int .i64 a1] rfl (by (try simp only [List.map_toArray, List.map_cons, List.map_nil]); first | done | rfl | (simp only [List.length_drop, List.length_take]; rfl)) ?_; (with_reducible refine (cmp_isNaN_int.calls a1 false _ A4.out).mono ?_); rintro e w' ⟨rfl, ⟨nd, rfl⟩⟩; refine ⟨_, rfl, ?_⟩))
          go_ret
          exact ⟨by first | rfl | (simp; done) | (simp [*]; done), by repeat (first | exact Drawn0.refl _ | apply Drawn0.step)⟩
        · rw [if_neg c9] at H
          have c9b0 : decide (a1 < a0) = false := decide_eq_false c9
          clear c9
          obtain rfl := Option.some.inj H
          go_enter Tryz.func84, Tryz.ntmps84
          go_wp2_with (first | ((with_reducible refine gate_callee (f := 106) rfl ?_); refine goesL_ (some 8) rfl rfl Tryz.func106 (by kernel_rfl) rfl #[.int .i64 a0] rfl (by (try simp only [List.map_toArray, List.map_cons, List.map_nil]); first | done | rfl | (simp only [List.length_drop, List.length_take]; rfl)) ?_; (with_reducible refine (cmp_isNaN_int.calls a0 false _ A3.out).mono ?_); rintro e w' ⟨rfl, ⟨nd, rfl⟩⟩; refine ⟨_, rfl, ?_⟩) | ((with_reducible refine gate_callee (f := 106) rfl ?_); refine goesL_ (some 10) rfl rfl Tryz.func106 (by kernel_rfl) rfl #[.int .i64 a1] rfl (by (try simp only [List.map_toArray, List.map_cons, List.map_nil]); first | done | rfl | (simp only [List.length_drop, List.length_take]; rfl)) ?_; (with_reducible refine (cmp_isNaN_int.calls a1 false _ A4.out).mono ?_); rintro e w' ⟨rfl, ⟨nd, rfl⟩⟩; refine ⟨_, rfl, ?_⟩))
          go_ret
          exact ⟨by first | rfl | (simp; done) | (simp [*]; done), by repeat (first | exact Drawn0.refl _ | apply Drawn0.step)⟩
def cmp_isNaN_string.f (a0 : ByteArray) : Option (Bool) := some (a0.toList != a0.toList)
set_option maxHeartbeats 8000000 in
set_option maxRecDepth 100000 in
theorem cmp_isNaN_string.calls (a0 : ByteArray) (r : Bool) (w : World) (h : cmp_isNaN_string.f a0 = some r) :
    Calls Tryz.prog 107 #[.string a0] w fun e w' => e = .returned (.bool r) ∧ Drawn0 w w' := by
  have H : (some (a0.toList != a0.toList)) = some r := h
  clear h
  obtain rfl := Option.some.inj H
  go_enter Tryz.func107, Tryz.ntmps107
  go_wp2
  go_ret
  exact ⟨by first | rfl | (simp; done) | (simp [*]; done), by repeat (first | exact Drawn0.refl _ | apply Drawn0.step)⟩
def cmp_Compare_string.f (a0 : ByteArray) (a1 : ByteArray) : Option (Int) := (cmp_isNaN_string.f a0).bind fun t167 => ((cmp_isNaN_string.f a1).bind fun t168 => (if t167 = true then (if t168 = true then (some 0) else (some (-1))) else (if t168 = true then (some 1) else (if (Op.bytesLess a0.toList a1.toList) = true then (some (-1)) else (if (Op.bytesLess a1.toList a0.toList) = true then (some 1) else (some 0))))))
set_option maxHeartbeats 8000000 in
set_option maxRecDepth 100000 in
theorem cmp_Compare_string.mono : True := trivial
attribute [local go_sem] gtr_str
set_option maxHeartbeats 8000000 in
set_option maxRecDepth 100000 in
theorem cmp_Compare_string.calls (a0 : ByteArray) (a1 : ByteArray) (r : Int) (w : World) (h : cmp_Compare_string.f a0 a1 = some r) :
    Calls Tryz.prog 85 #[.string a0, .string a1] w fun e w' => e = .returned (.int .i64 r) ∧ Drawn0 w w' := by
  have H : ((cmp_isNaN_string.f a0).bind fun t167 => ((cmp_isNaN_string.f a1).bind fun t168 => (if t167 = true then (if t168 = true then (some 0) else (some (-1))) else (if t168 = true then (some 1) else (if (Op.bytesLess a0.toList a1.toList) = true then (some (-1)) else (if (Op.bytesLess a1.toList a0.toList) = true then (some 1) else (some 0))))))) = some r := h
  clear h
  replace H := Option.bind_eq_some_iff.mp H
  obtain ⟨t167, A30, H⟩ := H
  replace H : ((cmp_isNaN_string.f a1).bind fun t168 => (if t167 = true then (if t168 = true then (some 0) else (some (-1))) else (if t168 = true then (some 1) else (if (Op.bytesLess a0.toList a1.toList) = true then (some (-1)) else (if (Op.bytesLess a1.toList a0.toList) = true then (some 1) else (some 0)))))) = some r := H
  have A3 := Aside0.mk A30
  clear A30
  replace H := Option.bind_eq_some_iff.mp H
  obtain ⟨t168, A40, H⟩ := H
  replace H : (if t167 = true then (if t168 = true then (some 0) else (some (-1))) else (if t168 = true then (some 1) else (if (Op.bytesLess a0.toList a1.toList) = true then (some (-1)) else (if (Op.bytesLess a1.toList a0.toList) = true then (some 1) else (some 0))))) = some r := H
  have A4 := Aside0.mk A40
  clear A40
  by_cases c5 : t167 = true
  · subst c5
    have H1 : (if t168 = true then (some 0) else (some (-1))) = some r := by rw [if_pos rfl] at H; exact H
    clear H
    have H := H1
    clear H1
    by_cases c6 : t168 = true
    · subst c6
      have H1 : (some 0) = some r := by rw [if_pos rfl] at H; exact H
      clear H
      have H := H1
      clear H1
      obtain rfl := Option.some.inj H
      go_enter Tryz.func85, Tryz.ntmps85
      go_wp2_with (first | ((with_reducible refine gate_callee (f := 107) rfl ?_); refine goesL_ (some 8) rfl rfl Tryz.func107 (by kernel_rfl) rfl #[.string a0] rfl (by (try simp only [List.map_toArray, List.map_cons, List.map_nil]); first | done | rfl | (simp only [List.length_drop, List.length_take]; rfl)) ?_; (with_reducible refine (cmp_isNaN_string.calls a0 true _ A3.out).mono ?_); rintro e w' ⟨rfl, ⟨nd, rfl⟩⟩; refine ⟨_, rfl, ?_⟩) | ((with_reducible refine gate_callee (f := 107) rfl ?_); refine goesL_ (some 10) rfl rfl Tryz.func107 (by kernel_rfl) rfl #[.string a1] rfl (by (try simp only [List.map_toArray, List.map_cons, List.map_nil]); first | done | rfl | (simp only [List.length_drop, List.length_take]; rfl)) ?_; (with_reducible refine (cmp_isNaN_string.calls a1 true _ A4.out).mono ?_); rintro e w' ⟨rfl, ⟨nd, rfl⟩⟩; refine ⟨_, rfl, ?_⟩))
      go_ret
      exact ⟨by first | rfl | (simp; done) | (simp [*]; done), by repeat (first | exact Drawn0.refl _ | apply Drawn0.step)⟩
    · replace c6 := Bool.eq_false_iff.mpr c6
      subst c6
      have H1 : (some (-1)) = some r := by rw [if_neg (show ¬ (false = true) by decide)] at H; exact H
      clear H
      have H := H1
      clear H1
      obtain rfl := Option.some.inj H
      go_enter Tryz.func85, Tryz.ntmps85
      go_wp2_with (first | ((with_reducible refine gate_callee (f := 107) rfl ?_); refine goesL_ (some 8) rfl rfl Tryz.func107 (by kernel_rfl) rfl #[.string a0] rfl (by (try simp only [List.map_toArray, List.map_cons, List.map_nil]); first | done | rfl | (simp only [List.length_drop, List.length_take]; rfl)) ?_; (with_reducible refine (cmp_isNaN_string.calls a0 true _ A3.out).mono ?_); rintro e w' ⟨rfl, ⟨nd, rfl⟩⟩; refine ⟨_, rfl, ?_⟩) | ((with_reducible refine gate_callee (f := 107) rfl ?_); refine goesL_ (some 10) rfl rfl Tryz.func107 (by kernel_rfl) rfl #[.string a1] rfl (by (try simp only [List.map_toArray, List.map_cons, List.map_nil]); first | done | rfl | (simp only [List.length_drop, List.length_take]; rfl)) ?_; (with_reducible refine (cmp_isNaN_string.calls a1 false _ A4.out).mono ?_); rintro e w' ⟨rfl, ⟨nd, rfl⟩⟩; refine ⟨_, rfl, ?_⟩))
      go_ret
      exact ⟨by first | rfl | (simp; done) | (simp [*]; done), by repeat (first | exact Drawn0.refl _ | apply Drawn0.step)⟩
  · replace c5 := Bool.eq_false_iff.mpr c5
    subst c5
    have H1 : (if t168 = true then (some 1) else (if (Op.bytesLess a0.toList a1.toList) = true then (some (-1)) else (if (Op.bytesLess a1.toList a0.toList) = true then (some 1) else (some 0)))) = some r := by rw [if_neg (show ¬ (false = true) by decide)] at H; exact H
    clear H
    have H := H1
    clear H1
    by_cases c7 : t168 = true
    · subst c7
      have H1 : (some 1) = some r := by rw [if_pos rfl] at H; exact H
      clear H
      have H := H1
      clear H1
      obtain rfl := Option.some.inj H
      go_enter Tryz.func85, Tryz.ntmps85
      go_wp2_with (first | ((with_reducible refine gate_callee (f := 107) rfl ?_); refine goesL_ (some 8) rfl rfl Tryz.func107 (by kernel_rfl) rfl #[.string a0] rfl (by (try simp only [List.map_toArray, List.map_cons, List.map_nil]); first | done | rfl | (simp only [List.length_drop, List.length_take]; rfl)) ?_; (with_reducible refine (cmp_isNaN_string.calls a0 false _ A3.out).mono ?_); rintro e w' ⟨rfl, ⟨nd, rfl⟩⟩; refine ⟨_, rfl, ?_⟩) | ((with_reducible refine gate_callee (f := 107) rfl ?_); refine goesL_ (some 10) rfl rfl Tryz.func107 (by kernel_rfl) rfl #[.string a1] rfl (by (try simp only [List.map_toArray, List.map_cons, List.map_nil]); first | done | rfl | (simp only [List.length_drop, List.length_take]; rfl)) ?_; (with_reducible refine (cmp_isNaN_string.calls a1 true _ A4.out).mono ?_); rintro e w' ⟨rfl, ⟨nd, rfl⟩⟩; refine ⟨_, rfl, ?_⟩))
      go_ret
      exact ⟨by first | rfl | (simp; done) | (simp [*]; done), by repeat (first | exact Drawn0.refl _ | apply Drawn0.step)⟩
    · replace c7 := Bool.eq_false_iff.mpr c7
      subst c7
      have H1 : (if (Op.bytesLess a0.toList a1.toList) = true then (some (-1)) else (if (Op.bytesLess a1.toList a0.toList) = true then (some 1) else (some 0))) = some r := by rw [if_neg (show ¬ (false = true) by decide)] at H; exact H
      clear H
      have H := H1
      clear H1
      by_cases c8 : (Op.bytesLess a0.toList a1.toList) = true
      · rw [if_pos c8] at H
        have c8b0 : (Op.bytesLess a0.toList a1.toList) = true := c8
        clear c8
        obtain rfl := Option.some.inj H
        go_enter Tryz.func85, Tryz.ntmps85
        go_wp2_with (first | ((with_reducible refine gate_callee (f := 107) rfl ?_); refine goesL_ (some 8) rfl rfl Tryz.func107 (by kernel_rfl) rfl #[.string a0] rfl (by (try simp only [List.map_toArray, List.map_cons, List.map_nil]); first | done | rfl | (simp only [List.length_drop, List.length_take]; rfl)) ?_; (with_reducible refine (cmp_isNaN_string.calls a0 false _ A3.out).mono ?_); rintro e w' ⟨rfl, ⟨nd, rfl⟩⟩; refine ⟨_, rfl, ?_⟩) | ((with_reducible refine gate_callee (f := 107) rfl ?_); refine goesL_ (some 10) rfl rfl Tryz.func107 (by kernel_rfl) rfl #[.string a1] rfl (by (try simp only [List.map_toArray, List.map_cons, List.map_nil]); first | done | rfl | (simp only [List.length_drop, List.length_take]; rfl)) ?_; (with_reducible refine (cmp_isNaN_string.calls a1 false _ A4.out).mono ?_); rintro e w' ⟨rfl, ⟨nd, rfl⟩⟩; refine ⟨_, rfl, ?_⟩))
        go_ret
        exact ⟨by first | rfl | (simp; done) | (simp [*]; done), by repeat (first | exact Drawn0.refl _ | apply Drawn0.step)⟩
      · rw [if_neg c8] at H
        have c8b0 : (Op.bytesLess a0.toList a1.toList) = false := by simpa using c8
        clear c8
        by_cases c9 : (Op.bytesLess a1.toList a0.toList) = true
        · rw [if_pos c9] at H
          have c9b0 : (Op.bytesLess a1.toList a0.toList) = true := c9
          clear c9; have e9_ : (a0.toList == a1.toList) = !(Op.bytesLess a1.toList a0.toList) := (by have h_ := less_turn a0.toList a1.toList; rw [c8b0] at h_; simpa using congrArg (!·) h_.symm); rw [c9b0] at e9_
          obtain rfl := Option.some.inj H
          go_enter Tryz.func85, Tryz.ntmps85
          go_wp2_with (first | ((with_reducible refine gate_callee (f := 107) rfl ?_); refine goesL_ (some 8) rfl rfl Tryz.func107 (by kernel_rfl) rfl #[.string a0] rfl (by (try simp only [List.map_toArray, List.map_cons, List.map_nil]); first | done | rfl | (simp only [List.length_drop, List.length_take]; rfl)) ?_; (with_reducible refine (cmp_isNaN_string.calls a0 false _ A3.out).mono ?_); rintro e w' ⟨rfl, ⟨nd, rfl⟩⟩; refine ⟨_, rfl, ?_⟩) | ((with_reducible refine gate_callee (f := 107) rfl ?_); refine goesL_ (some 10) rfl rfl Tryz.func107 (by kernel_rfl) rfl #[.string a1] rfl (by (try simp only [List.map_toArray, List.map_cons, List.map_nil]); first | done | rfl | (simp only [List.length_drop, List.length_take]; rfl)) ?_; (with_reducible refine (cmp_isNaN_string.calls a1 false _ A4.out).mono ?_); rintro e w' ⟨rfl, ⟨nd, rfl⟩⟩; refine ⟨_, rfl, ?_⟩))
          go_ret
          exact ⟨by first | rfl | (simp; done) | (simp [*]; done), by repeat (first | exact Drawn0.refl _ | apply Drawn0.step)⟩
        · rw [if_neg c9] at H
          have c9b0 : (Op.bytesLess a1.toList a0.toList) = false := by simpa using c9
          clear c9; have e9_ : (a0.toList == a1.toList) = !(Op.bytesLess a1.toList a0.toList) := (by have h_ := less_turn a0.toList a1.toList; rw [c8b0] at h_; simpa using congrArg (!·) h_.symm); rw [c9b0] at e9_
          obtain rfl := Option.some.inj H
          go_enter Tryz.func85, Tryz.ntmps85
          go_wp2_with (first | ((with_reducible refine gate_callee (f := 107) rfl ?_); refine goesL_ (some 8) rfl rfl Tryz.func107 (by kernel_rfl) rfl #[.string a0] rfl (by (try simp only [List.map_toArray, List.map_cons, List.map_nil]); first | done | rfl | (simp only [List.length_drop, List.length_take]; rfl)) ?_; (with_reducible refine (cmp_isNaN_string.calls a0 false _ A3.out).mono ?_); rintro e w' ⟨rfl, ⟨nd, rfl⟩⟩; refine ⟨_, rfl, ?_⟩) | ((with_reducible refine gate_callee (f := 107) rfl ?_); refine goesL_ (some 10) rfl rfl Tryz.func107 (by kernel_rfl) rfl #[.string a1] rfl (by (try simp only [List.map_toArray, List.map_cons, List.map_nil]); first | done | rfl | (simp only [List.length_drop, List.length_take]; rfl)) ?_; (with_reducible refine (cmp_isNaN_string.calls a1 false _ A4.out).mono ?_); rintro e w' ⟨rfl, ⟨nd, rfl⟩⟩; refine ⟨_, rfl, ?_⟩))
          go_ret
          exact ⟨by first | rfl | (simp; done) | (simp [*]; done), by repeat (first | exact Drawn0.refl _ | apply Drawn0.step)⟩
end Go.Proofs.YtlenlhnpmblicaaGreatDoor.XA
end
section
set_option linter.unusedVariables false
set_option linter.unusedSimpArgs false
namespace Go.Proofs.YtlenlhnpmblicaaGreatDoor.XA
set_option linter.unusedSimpArgs false
set_option linter.unusedVariables false
open Go.RowKit
open Go.Proofs.YtlenlhnpmblicaaGreatDoorW.PrintWords Go.Proofs.YtlenlhnpmblicaaGreatDoorW.PrintLast Go.Proofs.YtlenlhnpmblicaaGreatDoorW.PrintMore
theorem ints_C (W : World) (xs : List Int) (hm : xs.length ≤ 1000000) : Kd.C (Kd.int .i64) (W.alloc (.cells (nums .i64 xs).toArray 3)) (some ⟨W.heap.size, 0, none⟩) xs.length xs := by
  have h := own_lit W 0 3 .i64 xs (Nat.zero_le _) (by omega)
  obtain ⟨A, c, he, _, hC⟩ := Kd.R_reads (Kd.R_of_own (enc := Value.int .i64) (h1 := fun _ => rfl) (ok := fun _ => True) h (fun _ _ => trivial))
  injection he with h1
  rw [h1]; exact hC
structure CB (w : World) (A : Option Addr) (n c : Nat) (W : World) : Prop where
  a : W.heap[w.heap.size]? = some (.cells #[.int .i64 2, .int .i64 3000, .int .i64 4100, .string ⟨#[]⟩, .bool false, .slice A n c, .int .i64 1] 32 (0, 0))
  b : W.heap[w.heap.size + 1]? = some (.cells #[.int .i64 4, .int .i64 (-1), .int .i64 (-1), .string ⟨#[120, 95, 49]⟩, .bool true, .slice none 0 0, .int .i64 0] 32 (0, 0))
  bel : Below w.heap.size w W
theorem CB.step {w : World} {A : Option Addr} {n c : Nat} {W W' : World} (h : CB w A n c W) (hb : Below W.heap.size W W') : CB w A n c W' :=
  ⟨(hb.block _ (blk_lt h.a)).trans h.a, (hb.block _ (blk_lt h.b)).trans h.b, h.bel.trans (hb.mono h.bel.size)⟩
theorem CB.mk2 (w : World) (A : Option Addr) (n c : Nat) : CB w A n c ((w.alloc (.cells #[.int .i64 2, .int .i64 3000, .int .i64 4100, .string ⟨#[]⟩, .bool false, .slice A n c, .int .i64 1] 32)).alloc (.cells #[.int .i64 4, .int .i64 (-1), .int .i64 (-1), .string ⟨#[120, 95, 49]⟩, .bool true, .slice none 0 0, .int .i64 0] 32)) := by
  have e : ∀ i : Nat, ((w.alloc (.cells #[.int .i64 2, .int .i64 3000, .int .i64 4100, .string ⟨#[]⟩, .bool false, .slice A n c, .int .i64 1] 32)).alloc (.cells #[.int .i64 4, .int .i64 (-1), .int .i64 (-1), .string ⟨#[120, 95, 49]⟩, .bool true, .slice none 0 0, .int .i64 0] 32)).heap[i]? = ((w.heap.push (.cells #[.int .i64 2, .int .i64 3000, .int .i64 4100, .string ⟨#[]⟩, .bool false, .slice A n c, .int .i64 1] 32)).push (.cells #[.int .i64 4, .int .i64 (-1), .int .i64 (-1), .string ⟨#[120, 95, 49]⟩, .bool true, .slice none 0 0, .int .i64 0] 32))[i]? := fun _ => rfl
  refine ⟨?_, ?_, below_alloc (below_alloc (Below.refl _ _) _) _⟩
  · rw [e]; simp [Array.getElem?_push]
  · rw [e, Array.getElem?_push, if_pos (by simp)]
set_option maxRecDepth 100000 in
set_option maxHeartbeats 8000000 in
theorem comp_ab (w : World) (A : Option Addr) (n c : Nat) : Calls Tryz.prog 51 #[.agg #[.int .i64 2, .int .i64 3000, .int .i64 4100, .string ⟨#[]⟩, .bool false, .slice A n c, .int .i64 1], .agg #[.int .i64 4, .int .i64 (-1), .int .i64 (-1), .string ⟨#[120, 95, 49]⟩, .bool true, .slice none 0 0, .int .i64 0]] w fun e w' => e = .returned (.int .i64 (-1)) ∧ Below w.heap.size w w' := by
  have hT := Tryz.underlying32
  have hT3 := Tryz.underlying30
  have HK0 : Hid (∀ W : World, Calls Tryz.prog 84 #[.int .i64 2, .int .i64 4] W fun e w' => e = .returned (.int .i64 (-1)) ∧ Below W.heap.size W w') := Lib.hid (fun W => (cmp_Compare_int.calls 2 4 (-1) W rfl).mono fun e w' h => ⟨h.1, h.2.below⟩)
  have HK1 : Hid (∀ W : World, Calls Tryz.prog 84 #[.int .i64 3000, .int .i64 (-1)] W fun e w' => e = .returned (.int .i64 1) ∧ Below W.heap.size W w') := Lib.hid (fun W => (cmp_Compare_int.calls 3000 (-1) 1 W rfl).mono fun e w' h => ⟨h.1, h.2.below⟩)
  have HK2 : Hid (∀ W : World, Calls Tryz.prog 84 #[.int .i64 4100, .int .i64 (-1)] W fun e w' => e = .returned (.int .i64 1) ∧ Below W.heap.size W w') := Lib.hid (fun W => (cmp_Compare_int.calls 4100 (-1) 1 W rfl).mono fun e w' h => ⟨h.1, h.2.below⟩)
  have HK3 : Hid (∀ W : World, Calls Tryz.prog 85 #[.string ⟨#[]⟩, .string ⟨#[120, 95, 49]⟩] W fun e w' => e = .returned (.int .i64 (-1)) ∧ Below W.heap.size W w') := Lib.hid (fun W => (cmp_Compare_string.calls ⟨#[]⟩ ⟨#[120, 95, 49]⟩ (-1) W (by kernel_rfl)).mono fun e w' h => ⟨h.1, h.2.below⟩)
  have HK4 : Hid (∀ W : World, Calls Tryz.prog 83 #[.slice (some ⟨W.heap.size, 0, none⟩) 4 4] (W.alloc (.cells #[.int .i64 (-1), .int .i64 1, .int .i64 1, .int .i64 (-1)] 3)) fun e w' => e = .returned (.int .i64 (-1)) ∧ Below (W.alloc (.cells #[.int .i64 (-1), .int .i64 1, .int .i64 1, .int .i64 (-1)] 3)).heap.size (W.alloc (.cells #[.int .i64 (-1), .int .i64 1, .int .i64 1, .int .i64 (-1)] 3)) w') := Lib.hid (fun W => (cmp_Or_int.calls 10 (some ⟨W.heap.size, 0, none⟩) 4 [-1, 1, 1, -1] (-1) _ (ints_C W [-1, 1, 1, -1] (by decide)) (by decide) (by kernel_rfl)).mono fun e w' h => ⟨h.1, h.2.below⟩)
  have H2 := Lib.hid (CB.mk2 w A n c)
  go_enter Tryz.func51, Tryz.ntmps51
  try simp only [List.append_eq, List.cons_append, List.nil_append]
  go_upto_region 1 with fail
  generalize (w.alloc (.cells #[.int .i64 2, .int .i64 3000, .int .i64 4100, .string ⟨#[]⟩, .bool false, .slice A n c, .int .i64 1] 32)).alloc (.cells #[.int .i64 4, .int .i64 (-1), .int .i64 (-1), .string ⟨#[120, 95, 49]⟩, .bool true, .slice none 0 0, .int .i64 0] 32) = w2 at H2 ⊢
  have HD : Hid (CB w A n c w2.drew) := Lib.hid (H2.out.step (Below.refl _ _).drew)
  have z0 : w2.drew.cell? ⟨w.heap.size, 0, none⟩ = some (.int .i64 2) := (blk_cell HD.out.a 0).trans rfl
  have z1 : w2.drew.cell? ⟨w.heap.size, 1, none⟩ = some (.int .i64 3000) := (blk_cell HD.out.a 1).trans rfl
  have z2 : w2.drew.cell? ⟨w.heap.size, 2, none⟩ = some (.int .i64 4100) := (blk_cell HD.out.a 2).trans rfl
  have z3 : w2.drew.cell? ⟨w.heap.size, 3, none⟩ = some (.string ⟨#[]⟩) := (blk_cell HD.out.a 3).trans rfl
  have z4 : w2.drew.cell? ⟨w.heap.size + 1, 0, none⟩ = some (.int .i64 4) := (blk_cell HD.out.b 0).trans rfl
  have z5 : w2.drew.cell? ⟨w.heap.size + 1, 1, none⟩ = some (.int .i64 (-1)) := (blk_cell HD.out.b 1).trans rfl
  have z6 : w2.drew.cell? ⟨w.heap.size + 1, 2, none⟩ = some (.int .i64 (-1)) := (blk_cell HD.out.b 2).trans rfl
  have z7 : w2.drew.cell? ⟨w.heap.size + 1, 3, none⟩ = some (.string ⟨#[120, 95, 49]⟩) := (blk_cell HD.out.b 3).trans rfl
  refine start_ (n := 23) (S := fun w' => w'.cell? ⟨w.heap.size, 0, none⟩ = some (.int .i64 2) ∧ w'.cell? ⟨w.heap.size, 1, none⟩ = some (.int .i64 3000) ∧ w'.cell? ⟨w.heap.size, 2, none⟩ = some (.int .i64 4100) ∧ w'.cell? ⟨w.heap.size, 3, none⟩ = some (.string ⟨#[]⟩) ∧ w'.cell? ⟨w.heap.size + 1, 0, none⟩ = some (.int .i64 4) ∧ w'.cell? ⟨w.heap.size + 1, 1, none⟩ = some (.int .i64 (-1)) ∧ w'.cell? ⟨w.heap.size + 1, 2, none⟩ = some (.int .i64 (-1)) ∧ w'.cell? ⟨w.heap.size + 1, 3, none⟩ = some (.string ⟨#[120, 95, 49]⟩)) (ds := []) #[false, false, false, false, false, false, false, false, false, false, false, false, false, false, false, false, false, false, false, false, false, false, false] (by kernel_rfl) rfl rfl ⟨z0, z1, z2, z3, z4, z5, z6, z7⟩ (fun hHeld => ?_)
  generalize w2.drew = wd at HD z0 z1 z2 z3 z4 z5 z6 z7 hHeld ⊢
  refine pure_ (i := 0) (N := some 6) (v := ?_) (a' := ?_) #[true, false, false, false, false, false, false, false, false, false, false, false, false, false, false, false, false, false, false, false, false, false, false] rfl rfl (by kernel_rfl) (fun _ _ _ h => h) (Or.inl ⟨by rfl, ?_⟩) ?_ ?_
  rotate_left
  · intro w'
    go_simp
    with_reducible rfl
  rotate_left
  · simp only [Act.put, List.setIfInBounds_toArray, List.set_cons_zero, List.set_cons_succ, i64_w, i32_w]
    rfl
  refine pure_ (i := 2) (N := some 8) (v := ?_) (a' := ?_) #[true, false, true, false, false, false, false, false, false, false, false, false, false, false, false, false, false, false, false, false, false, false, false] rfl rfl (by kernel_rfl) (fun _ _ _ h => h) (Or.inl ⟨by rfl, ?_⟩) ?_ ?_
  rotate_left
  · intro w'
    go_simp
    with_reducible rfl
  rotate_left
  · simp only [Act.put, List.setIfInBounds_toArray, List.set_cons_zero, List.set_cons_succ, i64_w, i32_w]
    rfl
  refine pure_ (i := 5) (N := some 11) (v := ?_) (a' := ?_) #[true, false, true, false, false, true, false, false, false, false, false, false, false, false, false, false, false, false, false, false, false, false, false] rfl rfl (by kernel_rfl) (fun _ _ _ h => h) (Or.inl ⟨by rfl, ?_⟩) ?_ ?_
  rotate_left
  · intro w'
    go_simp
    with_reducible rfl
  rotate_left
  · simp only [Act.put, List.setIfInBounds_toArray, List.set_cons_zero, List.set_cons_succ, i64_w, i32_w]
    rfl
  refine pure_ (i := 7) (N := some 13) (v := ?_) (a' := ?_) #[true, false, true, false, false, true, false, true, false, false, false, false, false, false, false, false, false, false, false, false, false, false, false] rfl rfl (by kernel_rfl) (fun _ _ _ h => h) (Or.inl ⟨by rfl, ?_⟩) ?_ ?_
  rotate_left
  · intro w'
    go_simp
    with_reducible rfl
  rotate_left
  · simp only [Act.put, List.setIfInBounds_toArray, List.set_cons_zero, List.set_cons_succ, i64_w, i32_w]
    rfl
  refine pure_ (i := 10) (N := some 16) (v := ?_) (a' := ?_) #[true, false, true, false, false, true, false, true, false, false, true, false, false, false, false, false, false, false, false, false, false, false, false] rfl rfl (by kernel_rfl) (fun _ _ _ h => h) (Or.inl ⟨by rfl, ?_⟩) ?_ ?_
  rotate_left
  · intro w'
    go_simp
    with_reducible rfl
  rotate_left
  · simp only [Act.put, List.setIfInBounds_toArray, List.set_cons_zero, List.set_cons_succ, i64_w, i32_w]
    rfl
  refine pure_ (i := 12) (N := some 18) (v := ?_) (a' := ?_) #[true, false, true, false, false, true, false, true, false, false, true, false, true, false, false, false, false, false, false, false, false, false, false] rfl rfl (by kernel_rfl) (fun _ _ _ h => h) (Or.inl ⟨by rfl, ?_⟩) ?_ ?_
  rotate_left
  · intro w'
    go_simp
    with_reducible rfl
  rotate_left
  · simp only [Act.put, List.setIfInBounds_toArray, List.set_cons_zero, List.set_cons_succ, i64_w, i32_w]
    rfl
  refine pure_ (i := 15) (N := some 21) (v := ?_) (a' := ?_) #[true, false, true, false, false, true, false, true, false, false, true, false, true, false, false, true, false, false, false, false, false, false, false] rfl rfl (by kernel_rfl) (fun _ _ _ h => h) (Or.inl ⟨by rfl, ?_⟩) ?_ ?_
  rotate_left
  · intro w'
    go_simp
    with_reducible rfl
  rotate_left
  · simp only [Act.put, List.setIfInBounds_toArray, List.set_cons_zero, List.set_cons_succ, i64_w, i32_w]
    rfl
  refine pure_ (i := 17) (N := some 23) (v := ?_) (a' := ?_) #[true, false, true, false, false, true, false, true, false, false, true, false, true, false, false, true, false, true, false, false, false, false, false] rfl rfl (by kernel_rfl) (fun _ _ _ h => h) (Or.inl ⟨by rfl, ?_⟩) ?_ ?_
  rotate_left
  · intro w'
    go_simp
    with_reducible rfl
  rotate_left
  · simp only [Act.put, List.setIfInBounds_toArray, List.set_cons_zero, List.set_cons_succ, i64_w, i32_w]
    rfl
  refine take_ (i := 1) (N := some 7) (v := ?_) (a' := ?_) #[true, true, true, false, false, true, false, true, false, false, true, false, true, false, false, true, false, true, false, false, false, false, false] rfl rfl (by kernel_rfl) (fun _ _ _ h => h) (Or.inl ⟨by rfl, ?_⟩) hHeld ?_ ?_
  rotate_left
  · rintro w' ⟨s0, s1, s2, s3, s4, s5, s6, s7⟩
    go_simp
    with_reducible rfl
  rotate_left
  · simp only [Act.put, List.setIfInBounds_toArray, List.set_cons_zero, List.set_cons_succ, i64_w, i32_w]
    rfl
  refine take_ (i := 3) (N := some 9) (v := ?_) (a' := ?_) #[true, true, true, true, false, true, false, true, false, false, true, false, true, false, false, true, false, true, false, false, false, false, false] rfl rfl (by kernel_rfl) (fun _ _ _ h => h) (Or.inl ⟨by rfl, ?_⟩) hHeld ?_ ?_
  rotate_left
  · rintro w' ⟨s0, s1, s2, s3, s4, s5, s6, s7⟩
    go_simp
    with_reducible rfl
  rotate_left
  · simp only [Act.put, List.setIfInBounds_toArray, List.set_cons_zero, List.set_cons_succ, i64_w, i32_w]
    rfl
  refine take_ (i := 6) (N := some 12) (v := ?_) (a' := ?_) #[true, true, true, true, false, true, true, true, false, false, true, false, true, false, false, true, false, true, false, false, false, false, false] rfl rfl (by kernel_rfl) (fun _ _ _ h => h) (Or.inl ⟨by rfl, ?_⟩) hHeld ?_ ?_
  rotate_left
  · rintro w' ⟨s0, s1, s2, s3, s4, s5, s6, s7⟩
    go_simp
    with_reducible rfl
  rotate_left
  · simp only [Act.put, List.setIfInBounds_toArray, List.set_cons_zero, List.set_cons_succ, i64_w, i32_w]
    rfl
  refine take_ (i := 8) (N := some 14) (v := ?_) (a' := ?_) #[true, true, true, true, false, true, true, true, true, false, true, false, true, false, false, true, false, true, false, false, false, false, false] rfl rfl (by kernel_rfl) (fun _ _ _ h => h) (Or.inl ⟨by rfl, ?_⟩) hHeld ?_ ?_
  rotate_left
  · rintro w' ⟨s0, s1, s2, s3, s4, s5, s6, s7⟩
    go_simp
    with_reducible rfl
  rotate_left
  · simp only [Act.put, List.setIfInBounds_toArray, List.set_cons_zero, List.set_cons_succ, i64_w, i32_w]
    rfl
  refine take_ (i := 11) (N := some 17) (v := ?_) (a' := ?_) #[true, true, true, true, false, true, true, true, true, false, true, true, true, false, false, true, false, true, false, false, false, false, false] rfl rfl (by kernel_rfl) (fun _ _ _ h => h) (Or.inl ⟨by rfl, ?_⟩) hHeld ?_ ?_
  rotate_left
  · rintro w' ⟨s0, s1, s2, s3, s4, s5, s6, s7⟩
    go_simp
    with_reducible rfl
  rotate_left
  · simp only [Act.put, List.setIfInBounds_toArray, List.set_cons_zero, List.set_cons_succ, i64_w, i32_w]
    rfl
  refine take_ (i := 13) (N := some 19) (v := ?_) (a' := ?_) #[true, true, true, true, false, true, true, true, true, false, true, true, true, true, false, true, false, true, false, false, false, false, false] rfl rfl (by kernel_rfl) (fun _ _ _ h => h) (Or.inl ⟨by rfl, ?_⟩) hHeld ?_ ?_
  rotate_left
  · rintro w' ⟨s0, s1, s2, s3, s4, s5, s6, s7⟩
    go_simp
    with_reducible rfl
  rotate_left
  · simp only [Act.put, List.setIfInBounds_toArray, List.set_cons_zero, List.set_cons_succ, i64_w, i32_w]
    rfl
  refine take_ (i := 16) (N := some 22) (v := ?_) (a' := ?_) #[true, true, true, true, false, true, true, true, true, false, true, true, true, true, false, true, true, true, false, false, false, false, false] rfl rfl (by kernel_rfl) (fun _ _ _ h => h) (Or.inl ⟨by rfl, ?_⟩) hHeld ?_ ?_
  rotate_left
  · rintro w' ⟨s0, s1, s2, s3, s4, s5, s6, s7⟩
    go_simp
    with_reducible rfl
  rotate_left
  · simp only [Act.put, List.setIfInBounds_toArray, List.set_cons_zero, List.set_cons_succ, i64_w, i32_w]
    rfl
  refine take_ (i := 18) (N := some 24) (v := ?_) (a' := ?_) #[true, true, true, true, false, true, true, true, true, false, true, true, true, true, false, true, true, true, true, false, false, false, false] rfl rfl (by kernel_rfl) (fun _ _ _ h => h) (Or.inl ⟨by rfl, ?_⟩) hHeld ?_ ?_
  rotate_left
  · rintro w' ⟨s0, s1, s2, s3, s4, s5, s6, s7⟩
    go_simp
    with_reducible rfl
  rotate_left
  · simp only [Act.put, List.setIfInBounds_toArray, List.set_cons_zero, List.set_cons_succ, i64_w, i32_w]
    rfl
  refine one_ (i := 4) (N := some 10) #[true, true, true, true, true, true, true, true, true, false, true, true, true, true, false, true, true, true, true, false, false, false, false] rfl rfl (by kernel_rfl) (by decide) (fun K hK => ?_)
  refine goes_ Tryz.func84 (by kernel_rfl) rfl #[.int .i64 2, .int .i64 4] (by rfl) rfl rfl (by simp only [List.map_toArray, List.map_cons, List.map_nil]; rfl) ?_
  with_reducible refine (HK0.out _).mono ?_
  rintro e w4 ⟨rfl, hb4⟩
  refine ⟨_, rfl, ?_⟩
  have HD4 := Lib.hid (HD.out.step hb4)
  clear hb4
  refine hK.out _ _ ⟨(blk_cell HD4.out.a 0).trans rfl, (blk_cell HD4.out.a 1).trans rfl, (blk_cell HD4.out.a 2).trans rfl, (blk_cell HD4.out.a 3).trans rfl, (blk_cell HD4.out.b 0).trans rfl, (blk_cell HD4.out.b 1).trans rfl, (blk_cell HD4.out.b 2).trans rfl, (blk_cell HD4.out.b 3).trans rfl⟩ (fun hHeld => ?_)
  clear hK K
  refine norm_ (a' := ?_) ?_ ?_
  rotate_left
  · show Act.put _ (some 10) _ = _
    simp only [Act.put, List.setIfInBounds_toArray, List.set_cons_zero, List.set_cons_succ, i64_w, i32_w]
    rfl
  refine one_ (i := 9) (N := some 15) #[true, true, true, true, true, true, true, true, true, true, true, true, true, true, false, true, true, true, true, false, false, false, false] rfl rfl (by kernel_rfl) (by decide) (fun K hK => ?_)
  refine goes_ Tryz.func84 (by kernel_rfl) rfl #[.int .i64 3000, .int .i64 (-1)] (by rfl) rfl rfl (by simp only [List.map_toArray, List.map_cons, List.map_nil]; rfl) ?_
  with_reducible refine (HK1.out _).mono ?_
  rintro e w9 ⟨rfl, hb9⟩
  refine ⟨_, rfl, ?_⟩
  have HD9 := Lib.hid (HD4.out.step hb9)
  clear hb9
  refine hK.out _ _ ⟨(blk_cell HD9.out.a 0).trans rfl, (blk_cell HD9.out.a 1).trans rfl, (blk_cell HD9.out.a 2).trans rfl, (blk_cell HD9.out.a 3).trans rfl, (blk_cell HD9.out.b 0).trans rfl, (blk_cell HD9.out.b 1).trans rfl, (blk_cell HD9.out.b 2).trans rfl, (blk_cell HD9.out.b 3).trans rfl⟩ (fun hHeld => ?_)
  clear hK K
  refine norm_ (a' := ?_) ?_ ?_
  rotate_left
  · show Act.put _ (some 15) _ = _
    simp only [Act.put, List.setIfInBounds_toArray, List.set_cons_zero, List.set_cons_succ, i64_w, i32_w]
    rfl
  refine one_ (i := 14) (N := some 20) #[true, true, true, true, true, true, true, true, true, true, true, true, true, true, true, true, true, true, true, false, false, false, false] rfl rfl (by kernel_rfl) (by decide) (fun K hK => ?_)
  refine goes_ Tryz.func84 (by kernel_rfl) rfl #[.int .i64 4100, .int .i64 (-1)] (by rfl) rfl rfl (by simp only [List.map_toArray, List.map_cons, List.map_nil]; rfl) ?_
  with_reducible refine (HK2.out _).mono ?_
  rintro e w14 ⟨rfl, hb14⟩
  refine ⟨_, rfl, ?_⟩
  have HD14 := Lib.hid (HD9.out.step hb14)
  clear hb14
  refine hK.out _ _ ⟨(blk_cell HD14.out.a 0).trans rfl, (blk_cell HD14.out.a 1).trans rfl, (blk_cell HD14.out.a 2).trans rfl, (blk_cell HD14.out.a 3).trans rfl, (blk_cell HD14.out.b 0).trans rfl, (blk_cell HD14.out.b 1).trans rfl, (blk_cell HD14.out.b 2).trans rfl, (blk_cell HD14.out.b 3).trans rfl⟩ (fun hHeld => ?_)
  clear hK K
  refine norm_ (a' := ?_) ?_ ?_
  rotate_left
  · show Act.put _ (some 20) _ = _
    simp only [Act.put, List.setIfInBounds_toArray, List.set_cons_zero, List.set_cons_succ, i64_w, i32_w]
    rfl
  refine one_ (i := 19) (N := some 25) #[true, true, true, true, true, true, true, true, true, true, true, true, true, true, true, true, true, true, true, true, false, false, false] rfl rfl (by kernel_rfl) (by decide) (fun K hK => ?_)
  refine goes_ Tryz.func85 (by kernel_rfl) rfl #[.string ⟨#[]⟩, .string ⟨#[120, 95, 49]⟩] (by rfl) rfl rfl (by simp only [List.map_toArray, List.map_cons, List.map_nil]; rfl) ?_
  with_reducible refine (HK3.out _).mono ?_
  rintro e w19 ⟨rfl, hb19⟩
  refine ⟨_, rfl, ?_⟩
  have HD19 := Lib.hid (HD14.out.step hb19)
  clear hb19
  refine hK.out _ _ ⟨(blk_cell HD19.out.a 0).trans rfl, (blk_cell HD19.out.a 1).trans rfl, (blk_cell HD19.out.a 2).trans rfl, (blk_cell HD19.out.a 3).trans rfl, (blk_cell HD19.out.b 0).trans rfl, (blk_cell HD19.out.b 1).trans rfl, (blk_cell HD19.out.b 2).trans rfl, (blk_cell HD19.out.b 3).trans rfl⟩ (fun hHeld => ?_)
  clear hK K
  refine norm_ (a' := ?_) ?_ ?_
  rotate_left
  · show Act.put _ (some 25) _ = _
    simp only [Act.put, List.setIfInBounds_toArray, List.set_cons_zero, List.set_cons_succ, i64_w, i32_w]
    rfl
  refine one_ (i := 20) (N := some 26) #[true, true, true, true, true, true, true, true, true, true, true, true, true, true, true, true, true, true, true, true, true, false, false] rfl rfl (by kernel_rfl) (by decide) (fun K hK => ?_)
  refine value_ (w1 := ?_) (v := ?_) (by rfl) rfl ?_ ?_
  rotate_left 2
  · go_simp
    constructor
    · rfl
    · rfl
  refine hK.out _ _ ⟨cell_alloc _ ((blk_cell HD19.out.a 0).trans rfl), cell_alloc _ ((blk_cell HD19.out.a 1).trans rfl), cell_alloc _ ((blk_cell HD19.out.a 2).trans rfl), cell_alloc _ ((blk_cell HD19.out.a 3).trans rfl), cell_alloc _ ((blk_cell HD19.out.b 0).trans rfl), cell_alloc _ ((blk_cell HD19.out.b 1).trans rfl), cell_alloc _ ((blk_cell HD19.out.b 2).trans rfl), cell_alloc _ ((blk_cell HD19.out.b 3).trans rfl)⟩ (fun hHeld => ?_)
  clear hK K
  refine norm_ (a' := ?_) ?_ ?_
  rotate_left
  · show Act.put _ (some 26) _ = _
    simp only [Act.put, List.setIfInBounds_toArray, List.set_cons_zero, List.set_cons_succ, i64_w, i32_w]
    rfl
  refine one_ (i := 21) (N := some 27) #[true, true, true, true, true, true, true, true, true, true, true, true, true, true, true, true, true, true, true, true, true, true, false] rfl rfl (by kernel_rfl) (by decide) (fun K hK => ?_)
  refine goes_ Tryz.func83 (by kernel_rfl) rfl #[.slice (some ⟨w19.heap.size, 0, none⟩) 4 4] (by rfl) rfl rfl (by simp only [List.map_toArray, List.map_cons, List.map_nil]; rfl) ?_
  with_reducible refine (HK4.out w19).mono ?_
  rintro e w21 ⟨rfl, hb21⟩
  refine ⟨_, rfl, ?_⟩
  have HD21 := Lib.hid ((HD19.out.step (below_alloc (Below.refl _ _) _)).step hb21)
  clear hb21
  refine hK.out _ _ ⟨(blk_cell HD21.out.a 0).trans rfl, (blk_cell HD21.out.a 1).trans rfl, (blk_cell HD21.out.a 2).trans rfl, (blk_cell HD21.out.a 3).trans rfl, (blk_cell HD21.out.b 0).trans rfl, (blk_cell HD21.out.b 1).trans rfl, (blk_cell HD21.out.b 2).trans rfl, (blk_cell HD21.out.b 3).trans rfl⟩ (fun hHeld => ?_)
  clear hK K
  refine norm_ (a' := ?_) ?_ ?_
  rotate_left
  · show Act.put _ (some 27) _ = _
    simp only [Act.put, List.setIfInBounds_toArray, List.set_cons_zero, List.set_cons_succ, i64_w, i32_w]
    rfl
  refine pure_ (i := 22) (N := some 5) (v := ?_) (a' := ?_) #[true, true, true, true, true, true, true, true, true, true, true, true, true, true, true, true, true, true, true, true, true, true, true] rfl rfl (by kernel_rfl) (fun _ _ _ h => h) (Or.inl ⟨by rfl, ?_⟩) ?_ ?_
  rotate_left
  · intro w'
    go_simp
    with_reducible rfl
  rotate_left
  · simp only [Act.put, List.setIfInBounds_toArray, List.set_cons_zero, List.set_cons_succ, i64_w, i32_w]
    rfl
  refine done_ (by kernel_rfl) ?_
  go_wp2
  go_ret
  exact ⟨rfl, HD21.out.bel⟩
set_option maxRecDepth 100000 in
theorem before_ab (w : World) (A : Option Addr) (n c : Nat) : Calls Tryz.prog 26 #[.agg #[.int .i64 2, .int .i64 3000, .int .i64 4100, .string ⟨#[]⟩, .bool false, .slice A n c, .int .i64 1], .agg #[.int .i64 4, .int .i64 (-1), .int .i64 (-1), .string ⟨#[120, 95, 49]⟩, .bool true, .slice none 0 0, .int .i64 0]] w fun e w' => e = .returned (.bool true) ∧ Below w.heap.size w w' := by
  have hT := Tryz.underlying32
  have hT3 := Tryz.underlying30
  have HK : Hid (∀ W : World, Calls Tryz.prog 51 #[.agg #[.int .i64 2, .int .i64 3000, .int .i64 4100, .string ⟨#[]⟩, .bool false, .slice A n c, .int .i64 1], .agg #[.int .i64 4, .int .i64 (-1), .int .i64 (-1), .string ⟨#[120, 95, 49]⟩, .bool true, .slice none 0 0, .int .i64 0]] W fun e w' => e = .returned (.int .i64 (-1)) ∧ Below W.heap.size W w') := Lib.hid (fun W => comp_ab W A n c)
  have H2 := Lib.hid (CB.mk2 w A n c)
  go_enter Tryz.func26, Tryz.ntmps26
  go_upto_region 1 with fail
  generalize (w.alloc (.cells #[.int .i64 2, .int .i64 3000, .int .i64 4100, .string ⟨#[]⟩, .bool false, .slice A n c, .int .i64 1] 32)).alloc (.cells #[.int .i64 4, .int .i64 (-1), .int .i64 (-1), .string ⟨#[120, 95, 49]⟩, .bool true, .slice none 0 0, .int .i64 0] 32) = w2 at H2 ⊢
  have HKW := Lib.hid (HK.out w2)
  have a0 := (blk_cell H2.out.a 0).trans rfl
  have b0 := (blk_cell H2.out.b 0).trans rfl
  have a1 := (blk_cell H2.out.a 1).trans rfl
  have b1 := (blk_cell H2.out.b 1).trans rfl
  have a2 := (blk_cell H2.out.a 2).trans rfl
  have b2 := (blk_cell H2.out.b 2).trans rfl
  have a3 := (blk_cell H2.out.a 3).trans rfl
  have b3 := (blk_cell H2.out.b 3).trans rfl
  have a4 := (blk_cell H2.out.a 4).trans rfl
  have b4 := (blk_cell H2.out.b 4).trans rfl
  have a5 := (blk_cell H2.out.a 5).trans rfl
  have b5 := (blk_cell H2.out.b 5).trans rfl
  have a6 := (blk_cell H2.out.a 6).trans rfl
  have b6 := (blk_cell H2.out.b 6).trans rfl
  go_wp2_with (go_at_call 51; refine HKW.out.mono ?_)
  first | (rintro e w3 rfl hb3) | (rintro e w3 ⟨rfl, hb3⟩)
  have H3 := Lib.hid (H2.out.step hb3)
  clear hb3
  try dsimp only
  go_wp2
  go_ret
  exact ⟨rfl, H3.out.bel⟩
theorem box_step {w W W' : World} {o : Obj} (h : Below w.heap.size w W ∧ W.heap[w.heap.size]? = some o) (hb : Below W.heap.size W W') : Below w.heap.size w W' ∧ W'.heap[w.heap.size]? = some o :=
  ⟨h.1.trans (hb.mono h.1.size), (hb.block _ (blk_lt h.2)).trans h.2⟩
set_option maxRecDepth 100000 in
set_option maxHeartbeats 8000000 in
theorem say_b (w : World) (hG : GOK w) : Calls Tryz.prog 31 #[.agg #[.int .i64 4, .int .i64 (-1), .int .i64 (-1), .string ⟨#[120, 95, 49]⟩, .bool true, .slice none 0 0, .int .i64 0]] w fun e w' => e = .returned (.string ((⟨#[110, 111, 32, 108, 105, 110, 101, 32, 117, 115, 101, 115, 32, 36]⟩ : ByteArray) ++ (⟨#[120, 95, 49]⟩ : ByteArray))) ∧ Below w.heap.size w w' := by
  have hT := Tryz.underlying32
  have hT3 := Tryz.underlying30
  have HN : Hid (∀ W : World, Below w.heap.size w W → Calls Tryz.prog 53 #[.int .i64 (-1)] W fun e w' => e = .returned (.string ⟨#[]⟩) ∧ Below W.heap.size W w') := Lib.hid (fun W hW => word_Number.calls 1 (-1) ⟨#[]⟩ W (hG.step hW) (number_f (-1) 0))
  have H2 := Lib.hid (And.intro (below_alloc (Below.refl w.heap.size w) (.cells #[.int .i64 4, .int .i64 (-1), .int .i64 (-1), .string ⟨#[120, 95, 49]⟩, .bool true, .slice none 0 0, .int .i64 0] 32)) (blk_alloc w (.cells #[.int .i64 4, .int .i64 (-1), .int .i64 (-1), .string ⟨#[120, 95, 49]⟩, .bool true, .slice none 0 0, .int .i64 0] 32)))
  clear hG
  go_enter Tryz.func31, Tryz.ntmps31
  try simp only [List.append_eq, List.cons_append, List.nil_append]
  go_upto_region 1 with fail
  generalize w.alloc (.cells #[.int .i64 4, .int .i64 (-1), .int .i64 (-1), .string ⟨#[120, 95, 49]⟩, .bool true, .slice none 0 0, .int .i64 0] 32) = w2 at H2 ⊢
  have HD := Lib.hid (box_step H2.out (Below.refl w2.heap.size w2).drew)
  have z1 : w2.drew.cell? ⟨w.heap.size, 1, none⟩ = some (.int .i64 (-1)) := (blk_cell HD.out.2 1).trans rfl
  have z2 : w2.drew.cell? ⟨w.heap.size, 2, none⟩ = some (.int .i64 (-1)) := (blk_cell HD.out.2 2).trans rfl
  refine start_ (n := 11) (S := fun w' => w'.cell? ⟨w.heap.size, 1, none⟩ = some (.int .i64 (-1)) ∧ w'.cell? ⟨w.heap.size, 2, none⟩ = some (.int .i64 (-1))) (ds := []) #[false, false, false, false, false, false, false, false, false, false, false] (by kernel_rfl) rfl rfl ⟨z1, z2⟩ (fun hHeld => ?_)
  generalize w2.drew = wd at HD z1 z2 hHeld ⊢
  refine pure_ (i := 0) (N := some 6) (v := ?_) (a' := ?_) #[true, false, false, false, false, false, false, false, false, false, false] rfl rfl (by kernel_rfl) (fun _ _ _ h => h) (Or.inl ⟨by rfl, ?_⟩) ?_ ?_
  rotate_left
  · intro w'
    go_simp
    with_reducible rfl
  rotate_left
  · simp only [Act.put, List.setIfInBounds_toArray, List.set_cons_zero, List.set_cons_succ, i64_w, i32_w]
    rfl
  refine pure_ (i := 4) (N := some 10) (v := ?_) (a' := ?_) #[true, false, false, false, true, false, false, false, false, false, false] rfl rfl (by kernel_rfl) (fun _ _ _ h => h) (Or.inl ⟨by rfl, ?_⟩) ?_ ?_
  rotate_left
  · intro w'
    go_simp
    with_reducible rfl
  rotate_left
  · simp only [Act.put, List.setIfInBounds_toArray, List.set_cons_zero, List.set_cons_succ, i64_w, i32_w]
    rfl
  refine take_ (i := 1) (N := some 7) (v := ?_) (a' := ?_) #[true, true, false, false, true, false, false, false, false, false, false] rfl rfl (by kernel_rfl) (fun _ _ _ h => h) (Or.inl ⟨by rfl, ?_⟩) hHeld ?_ ?_
  rotate_left
  · rintro w' ⟨s0, s1⟩
    go_simp
    with_reducible rfl
  rotate_left
  · simp only [Act.put, List.setIfInBounds_toArray, List.set_cons_zero, List.set_cons_succ, i64_w, i32_w]
    rfl
  refine take_ (i := 5) (N := some 11) (v := ?_) (a' := ?_) #[true, true, false, false, true, true, false, false, false, false, false] rfl rfl (by kernel_rfl) (fun _ _ _ h => h) (Or.inl ⟨by rfl, ?_⟩) hHeld ?_ ?_
  rotate_left
  · rintro w' ⟨s0, s1⟩
    go_simp
    with_reducible rfl
  rotate_left
  · simp only [Act.put, List.setIfInBounds_toArray, List.set_cons_zero, List.set_cons_succ, i64_w, i32_w]
    rfl
  refine one_ (i := 2) (N := some 8) #[true, true, true, false, true, true, false, false, false, false, false] rfl rfl (by kernel_rfl) (by decide) (fun K hK => ?_)
  refine goes_ Tryz.func53 (by kernel_rfl) rfl #[.int .i64 (-1)] (by rfl) rfl rfl (by simp only [List.map_toArray, List.map_cons, List.map_nil]; rfl) ?_
  with_reducible refine (HN.out _ HD.out.1).mono ?_
  rintro e w4 ⟨rfl, hb4⟩
  refine ⟨_, rfl, ?_⟩
  have HD4 := Lib.hid (box_step HD.out hb4)
  clear hb4
  refine hK.out _ _ ⟨(blk_cell HD4.out.2 1).trans rfl, (blk_cell HD4.out.2 2).trans rfl⟩ (fun hHeld => ?_)
  clear hK K
  refine norm_ (a' := ?_) ?_ ?_
  rotate_left
  · show Act.put _ (some 8) _ = _
    simp only [Act.put, List.setIfInBounds_toArray, List.set_cons_zero, List.set_cons_succ, i64_w, i32_w]
    rfl
  refine pure_ (i := 3) (N := some 9) (v := ?_) (a' := ?_) #[true, true, true, true, true, true, false, false, false, false, false] rfl rfl (by kernel_rfl) (fun _ _ _ h => h) (Or.inl ⟨by rfl, ?_⟩) ?_ ?_
  rotate_left
  · intro w'
    go_simp
    with_reducible rfl
  rotate_left
  · simp only [Act.put, List.setIfInBounds_toArray, List.set_cons_zero, List.set_cons_succ, i64_w, i32_w]
    rfl
  refine one_ (i := 6) (N := some 12) #[true, true, true, true, true, true, true, false, false, false, false] rfl rfl (by kernel_rfl) (by decide) (fun K hK => ?_)
  refine goes_ Tryz.func53 (by kernel_rfl) rfl #[.int .i64 (-1)] (by rfl) rfl rfl (by simp only [List.map_toArray, List.map_cons, List.map_nil]; rfl) ?_
  with_reducible refine (HN.out _ HD4.out.1).mono ?_
  rintro e w6 ⟨rfl, hb6⟩
  refine ⟨_, rfl, ?_⟩
  have HD6 := Lib.hid (box_step HD4.out hb6)
  clear hb6
  refine hK.out _ _ ⟨(blk_cell HD6.out.2 1).trans rfl, (blk_cell HD6.out.2 2).trans rfl⟩ (fun hHeld => ?_)
  clear hK K
  refine norm_ (a' := ?_) ?_ ?_
  rotate_left
  · show Act.put _ (some 12) _ = _
    simp only [Act.put, List.setIfInBounds_toArray, List.set_cons_zero, List.set_cons_succ, i64_w, i32_w]
    rfl
  refine pure_ (i := 7) (N := some 13) (v := ?_) (a' := ?_) #[true, true, true, true, true, true, true, true, false, false, false] rfl rfl (by kernel_rfl) (fun _ _ _ h => h) (Or.inl ⟨by rfl, ?_⟩) ?_ ?_
  rotate_left
  · intro w'
    go_simp
    with_reducible rfl
  rotate_left
  · simp only [Act.put, List.setIfInBounds_toArray, List.set_cons_zero, List.set_cons_succ, i64_w, i32_w]
    rfl
  refine pure_ (i := 8) (N := some 3) (v := ?_) (a' := ?_) #[true, true, true, true, true, true, true, true, true, false, false] rfl rfl (by kernel_rfl) (fun _ _ _ h => h) (Or.inl ⟨by rfl, ?_⟩) ?_ ?_
  rotate_left
  · intro w'
    go_simp
    with_reducible rfl
  rotate_left
  · simp only [Act.put, List.setIfInBounds_toArray, List.set_cons_zero, List.set_cons_succ, i64_w, i32_w]
    rfl
  refine pure_ (i := 9) (N := some 4) (v := ?_) (a' := ?_) #[true, true, true, true, true, true, true, true, true, true, false] rfl rfl (by kernel_rfl) (fun _ _ _ h => h) (Or.inl ⟨by rfl, ?_⟩) ?_ ?_
  rotate_left
  · intro w'
    go_simp
    with_reducible rfl
  rotate_left
  · simp only [Act.put, List.setIfInBounds_toArray, List.set_cons_zero, List.set_cons_succ, i64_w, i32_w]
    rfl
  refine pure_ (i := 10) (N := some 5) (v := ?_) (a' := ?_) #[true, true, true, true, true, true, true, true, true, true, true] rfl rfl (by kernel_rfl) (fun _ _ _ h => h) (Or.inl ⟨by rfl, ?_⟩) ?_ ?_
  rotate_left
  · intro w'
    go_simp
    with_reducible rfl
  rotate_left
  · simp only [Act.put, List.setIfInBounds_toArray, List.set_cons_zero, List.set_cons_succ, i64_w, i32_w]
    rfl
  refine done_ (by kernel_rfl) ?_
  have y0 := (blk_cell HD6.out.2 0).trans rfl
  have y3 := (blk_cell HD6.out.2 3).trans rfl
  have y5 := (blk_cell HD6.out.2 5).trans rfl
  have y6 := (blk_cell HD6.out.2 6).trans rfl
  go_wp2
  go_ret
  exact ⟨rfl, HD6.out.1⟩
set_option maxRecDepth 100000 in
theorem Say_b (w : World) (hG : GOK w) : Calls Tryz.prog 13 #[.agg #[.int .i64 4, .int .i64 (-1), .int .i64 (-1), .string ⟨#[120, 95, 49]⟩, .bool true, .slice none 0 0, .int .i64 0]] w fun e w' => e = .returned (.tuple #[.string ⟨#[110, 111, 32, 108, 105, 110, 101, 32, 117, 115, 101, 115, 32, 36, 120, 95, 49, 32, 40, 97, 108, 108, 111, 119, 101, 100, 41]⟩, .int .i64 0]) ∧ Below w.heap.size w w' := by
  have hT := Tryz.underlying32
  have hT3 := Tryz.underlying30
  have H2 := Lib.hid (And.intro (below_alloc (Below.refl w.heap.size w) (.cells #[.int .i64 4, .int .i64 (-1), .int .i64 (-1), .string ⟨#[120, 95, 49]⟩, .bool true, .slice none 0 0, .int .i64 0] 32)) (blk_alloc w (.cells #[.int .i64 4, .int .i64 (-1), .int .i64 (-1), .string ⟨#[120, 95, 49]⟩, .bool true, .slice none 0 0, .int .i64 0] 32)))
  have hn : Kd.C (Kd.int .i64) (w.alloc (.cells #[.int .i64 4, .int .i64 (-1), .int .i64 (-1), .string ⟨#[120, 95, 49]⟩, .bool true, .slice none 0 0, .int .i64 0] 32)) none 0 [] := Kd.C_of_reads (enc := Value.int .i64) (d := (0 : Int)) (h1 := fun _ => rfl) (readsInt_of.1 (ReadsInt.nil _ .i64))
  have HR : Hid (Calls Tryz.prog 15 #[.agg #[.int .i64 4, .int .i64 (-1), .int .i64 (-1), .string ⟨#[120, 95, 49]⟩, .bool true, .slice none 0 0, .int .i64 0]] (w.alloc (.cells #[.int .i64 4, .int .i64 (-1), .int .i64 (-1), .string ⟨#[120, 95, 49]⟩, .bool true, .slice none 0 0, .int .i64 0] 32)) fun e w' => e = .returned (.bool true) ∧ Below (w.alloc (.cells #[.int .i64 4, .int .i64 (-1), .int .i64 (-1), .string ⟨#[120, 95, 49]⟩, .bool true, .slice none 0 0, .int .i64 0] 32)).heap.size (w.alloc (.cells #[.int .i64 4, .int .i64 (-1), .int .i64 (-1), .string ⟨#[120, 95, 49]⟩, .bool true, .slice none 0 0, .int .i64 0] 32)) w') := Lib.hid (note_Right.calls 4 (-1) (-1) ⟨#[120, 95, 49]⟩ true none 0 [] 0 true _ (hG.step H2.out.1) hn (by decide) (by kernel_rfl))
  have HS : Hid (∀ W : World, Below w.heap.size w W → Calls Tryz.prog 31 #[.agg #[.int .i64 4, .int .i64 (-1), .int .i64 (-1), .string ⟨#[120, 95, 49]⟩, .bool true, .slice none 0 0, .int .i64 0]] W fun e w' => e = .returned (.string ((⟨#[110, 111, 32, 108, 105, 110, 101, 32, 117, 115, 101, 115, 32, 36]⟩ : ByteArray) ++ (⟨#[120, 95, 49]⟩ : ByteArray))) ∧ Below W.heap.size W w') := Lib.hid (fun W hW => say_b W (hG.step hW))
  clear hG hn
  go_enter Tryz.func13, Tryz.ntmps13
  go_upto_region 1 with fail
  generalize w.alloc (.cells #[.int .i64 4, .int .i64 (-1), .int .i64 (-1), .string ⟨#[120, 95, 49]⟩, .bool true, .slice none 0 0, .int .i64 0] 32) = w2 at H2 HR ⊢
  have y0 := (blk_cell H2.out.2 0).trans rfl
  have y1 := (blk_cell H2.out.2 1).trans rfl
  have y2 := (blk_cell H2.out.2 2).trans rfl
  have y3 := (blk_cell H2.out.2 3).trans rfl
  have y4 := (blk_cell H2.out.2 4).trans rfl
  have y5 := (blk_cell H2.out.2 5).trans rfl
  have y6 := (blk_cell H2.out.2 6).trans rfl
  go_wp2_with (go_at_call 15; refine HR.out.mono ?_)
  first | (rintro e w3 rfl hb3) | (rintro e w3 ⟨rfl, hb3⟩)
  have H3 := Lib.hid (box_step H2.out hb3)
  have HSW := Lib.hid (HS.out w3 H3.out.1)
  clear hb3 HR H2 y0 y1 y2 y3 y4 y5 y6
  try dsimp only
  have y0 := (blk_cell H3.out.2 0).trans rfl
  have y1 := (blk_cell H3.out.2 1).trans rfl
  have y2 := (blk_cell H3.out.2 2).trans rfl
  have y3 := (blk_cell H3.out.2 3).trans rfl
  have y4 := (blk_cell H3.out.2 4).trans rfl
  have y5 := (blk_cell H3.out.2 5).trans rfl
  have y6 := (blk_cell H3.out.2 6).trans rfl
  go_wp2_with (go_at_call 31; refine HSW.out.mono ?_)
  first | (rintro e w4 rfl hb4) | (rintro e w4 ⟨rfl, hb4⟩)
  have H4 := Lib.hid (box_step H3.out hb4)
  clear hb4
  try dsimp only
  have hsz : (⟨#[110, 111, 32, 108, 105, 110, 101, 32, 117, 115, 101, 115, 32, 36]⟩ : ByteArray).size = 14 := rfl
  go_wp2
  go_ret2
  exact ⟨by first | rfl | kernel_rfl, H4.out.1⟩
end Go.Proofs.YtlenlhnpmblicaaGreatDoor.XA
end
section
set_option linter.unusedVariables false
set_option linter.unusedSimpArgs false
namespace Go.Proofs.YtlenlhnpmblicaaGreatDoor.XA
set_option linter.unusedSimpArgs false
set_option linter.unusedVariables false
open Go.RowKit
open Go.Proofs.YtlenlhnpmblicaaGreatDoorW.PrintWords Go.Proofs.YtlenlhnpmblicaaGreatDoorW.PrintLast Go.Proofs.YtlenlhnpmblicaaGreatDoorW.PrintMore
abbrev cellsA (gt : Nat) : List Value := [.int .i64 2, .int .i64 3000, .int .i64 4100, .string ⟨#[]⟩, .bool false, .slice (some ⟨gt, 0, none⟩) 2 2, .int .i64 1]
abbrev cellsB : List Value := [.int .i64 4, .int .i64 (-1), .int .i64 (-1), .string ⟨#[120, 95, 49]⟩, .bool true, .slice none 0 0, .int .i64 0]
structure AS (w : World) (gt ga gb : Nat) (W : World) : Prop where
  bel : Below w.heap.size w W
  t : W.heap[gt]? = some (.cells #[.int .i64 97, .int .i64 0] 3 (0, 0))
  a : W.heap[ga]? = some (.cells #[.int .i64 2, .int .i64 3000, .int .i64 4100, .string ⟨#[]⟩, .bool false, .slice (some ⟨gt, 0, none⟩) 2 2, .int .i64 1] 32 (0, 0))
  b : W.heap[gb]? = some (.cells #[.int .i64 4, .int .i64 (-1), .int .i64 (-1), .string ⟨#[120, 95, 49]⟩, .bool true, .slice none 0 0, .int .i64 0] 32 (0, 0))
theorem AS.step {w : World} {gt ga gb : Nat} {W W' : World} (h : AS w gt ga gb W) (hb : Below W.heap.size W W') : AS w gt ga gb W' :=
  ⟨h.bel.trans (hb.mono h.bel.size), (hb.block _ (blk_lt h.t)).trans h.t, (hb.block _ (blk_lt h.a)).trans h.a, (hb.block _ (blk_lt h.b)).trans h.b⟩
theorem nil_C (W : World) : Kd.C (Kd.int .i64) W none 0 [] := Kd.C_of_reads (enc := Value.int .i64) (d := (0 : Int)) (h1 := fun _ => rfl) (readsInt_of.1 (ReadsInt.nil W .i64))
theorem AS.text {w : World} {gt ga gb : Nat} {W : World} (h : AS w gt ga gb W) : Kd.C (Kd.int .i64) W (some ⟨gt, 0, none⟩) 2 [97, 0] :=
  Kd.C_of_reads (enc := Value.int .i64) (d := (0 : Int)) (h1 := fun _ => rfl) (readsInt_of.1 ⟨rfl, by decide, fun _ => ⟨⟨gt, 0, none⟩, rfl, fun j hj => by
    rw [add_plain]
    match j, hj with
    | 0, _ => exact (blk_cell h.t 0).trans rfl
    | 1, _ => exact (blk_cell h.t 1).trans rfl⟩⟩)
theorem pair_C {W : World} {g : Nat} (x y : S32) (lx ly : List Value) (hx : k32.K W x lx) (hy : k32.K W y ly) (l7x : lx.length = 7) (l7y : ly.length = 7) (hc : ∀ (j : Nat) v, (lx ++ ly)[j]? = some v → W.cell? ⟨g, j, none⟩ = some v) :
    Kd.C k32 W (some ⟨g, 0, none⟩) 2 [x, y] := by
  refine ⟨rfl, by decide, fun _ => ⟨⟨g, 0, none⟩, rfl, fun j p hj => ?_⟩⟩
  match j, hj with
  | 0, hj =>
    cases hj
    exact ⟨lx, l7x, hx, fun i u hu => by
      rw [add_plain]
      exact hc _ _ (by rw [Nat.zero_mul, Nat.zero_add, List.getElem?_append_left (List.getElem?_eq_some_iff.1 hu).1]; exact hu)⟩
  | 1, hj =>
    cases hj
    exact ⟨ly, l7y, hy, fun i u hu => by
      have e : 1 * k32.sz + i = 7 + i := rfl
      rw [add_plain, e]
      exact hc _ _ (by rw [List.getElem?_append_right (by omega), show 7 + i - lx.length = i by omega]; exact hu)⟩
  | j + 2, hj => simp at hj
theorem AS.kA {w : World} {gt ga gb : Nat} {W : World} (h : AS w gt ga gb W) : k32.K W aS (cellsA gt) := k32_mk W aS (A5 := some ⟨gt, 0, none⟩) (c5 := 2) (by decide) h.text
theorem kB (W : World) : k32.K W bS cellsB := k32_mk W bS (A5 := none) (c5 := 0) (by decide) (nil_C W)
theorem row_cells {W : World} {g : Nat} {T : TypeId} {l : List Value} (h : W.heap[g]? = some (.cells l.toArray T (0, 0))) (j : Nat) (v : Value) (hv : l[j]? = some v) : W.cell? ⟨g, j, none⟩ = some v :=
  (blk_cell h j).trans (by rw [List.getElem?_toArray]; exact hv)
theorem SQ.cells {W : World} {g : Nat} {l : List Value} (h : SQ W g l) (j : Nat) (v : Value) (hv : l[j]? = some v) : W.cell? ⟨g, j, none⟩ = some v := by
  obtain ⟨rest, h⟩ := h
  exact row_cells h j v (by rw [List.getElem?_append_left (List.getElem?_eq_some_iff.1 hv).1]; exact hv)
theorem AS.ab {w : World} {gt ga gb : Nat} {W : World} (h : AS w gt ga gb W) {g : Nat} (hc : ∀ (j : Nat) v, (cellsA gt ++ cellsB)[j]? = some v → W.cell? ⟨g, j, none⟩ = some v) : Kd.C k32 W (some ⟨g, 0, none⟩) 2 [aS, bS] :=
  pair_C aS bS _ _ h.kA (kB W) rfl rfl hc
theorem sort_calls (w : World) (gt ga gb : Nat) (W : World) (h : AS w gt ga gb W) (g0 : Nat) (hc : ∀ (j : Nat) v, (cellsB ++ cellsA gt)[j]? = some v → W.cell? ⟨g0, j, none⟩ = some v) :
    Calls Tryz.prog 24 #[.slice (some ⟨g0, 0, none⟩) 2 2] W fun e w' => ∃ g cp, e = .returned (.slice (some ⟨g, 0, none⟩) 2 cp) ∧ 2 ≤ cp ∧ SQ w' g (cellsA gt ++ cellsB) ∧ Below W.heap.size W w' := by
  have HC := Lib.hid (clone_calls W g0 2 cellsB (cellsA gt) rfl rfl (by simp [Value.oneCell']) (by simp [Value.oneCell']) hc)
  have HA := Lib.hid h
  clear hc h
  go_enter Tryz.func24, Tryz.ntmps24
  go_wp2_with (go_at_call 49; refine HC.out.mono ?_)
  first | (rintro e w1 g cp rfl h1 h2 h3 h4) | (rintro e w1 ⟨g, cp, rfl, h1, h2, h3, h4⟩)
  have HA1 := Lib.hid (HA.out.step h4)
  have HI := Lib.hid (ins_calls w1 g cp 4 (-1) (-1) ⟨#[120, 95, 49]⟩ true none 0 0 0 2 3000 4100 ⟨#[]⟩ false (some ⟨gt, 0, none⟩) 2 2 1 (-1) h3 (by decide) h1 (fun W' _ => comp_ab W' (some ⟨gt, 0, none⟩) 2 2))
  have HS := Lib.hid (sortStable_calls w1 (.slice (some ⟨g, 0, none⟩) 2 cp) ⟨_, _, rfl⟩ _ HI.out)
  have H4 := Lib.hid h4
  have H1 := Lib.hid h1
  have H2 := Lib.hid h2
  clear h1 h2 h3 h4 HC HA HI
  try dsimp only
  go_wp2_with (go_at_call 50; refine HS.out.mono ?_)
  first | (rintro e w2 rfl h5 h6) | (rintro e w2 ⟨rfl, h5, h6⟩)
  have H5 := Lib.hid h5
  have H6 := Lib.hid (H4.out.grown h6 H4.out.size (fun j hj => by cases hj; exact H2.out))
  clear h5 h6 HS
  try dsimp only
  go_wp2
  go_ret
  exact ⟨g, cp, rfl, H1.out, H5.out, H6.out⟩
end Go.Proofs.YtlenlhnpmblicaaGreatDoor.XA
end
section
set_option linter.unusedVariables false
set_option linter.unusedSimpArgs false
namespace Go.Proofs.YtlenlhnpmblicaaGreatDoor.XA
set_option linter.unusedSimpArgs false
set_option linter.unusedVariables false
open Go.RowKit
open Go.Proofs.YtlenlhnpmblicaaGreatDoorW.PrintWords Go.Proofs.YtlenlhnpmblicaaGreatDoorW.PrintLast Go.Proofs.YtlenlhnpmblicaaGreatDoorW.PrintMore
theorem blk_next (w : World) (o p : Obj) : ((w.alloc o).alloc p).heap[w.heap.size + 1]? = some p := by
  have e : ∀ i : Nat, ((w.alloc o).alloc p).heap[i]? = ((w.heap.push o).push p)[i]? := fun _ => rfl
  rw [e, Array.getElem?_push, if_pos (by simp)]
theorem SQ.step {W W' : World} {g : Nat} {l : List Value} (h : SQ W g l) (hb : Below W.heap.size W W') : SQ W' g l := by
  obtain ⟨rest, h⟩ := h
  exact ⟨rest, (hb.block _ (blk_lt h)).trans h⟩
structure FJ (w : World) (gt ga gb : Nat) (s : Nat × Nat × Nat × Nat) (W : World) : Prop where
  a : AS w gt ga gb W
  q : SQ W s.2.1 (cellsA gt ++ cellsB)
  r : W.heap[s.2.2.2]? = some (.cells (cellsA gt ++ cellsB).toArray 32 (0, 0))
  c : 2 ≤ s.2.2.1
theorem same_rows (w : World) (gt ga gb : Nat) (W : World) (A : Option Addr) (c : Nat) (g : Nat) (hA : AS w gt ga gb W) (hC : Kd.C k32 W A 2 [aS, bS]) (hc : 2 ≤ c) (hr : ∀ (j : Nat) v, (cellsA gt ++ cellsB)[j]? = some v → W.cell? ⟨g, j, none⟩ = some v) :
    Calls Tryz.prog 23 #[.slice A 2 c, .slice (some ⟨g, 0, none⟩) 2 2] W fun e w' => e = .returned (.bool true) ∧ Below W.heap.size W w' :=
  caesuraref27_Same.calls A c [aS, bS] (some ⟨g, 0, none⟩) 2 [aS, bS] true W hC hc (hA.ab hr) (by decide) (by kernel_rfl)
set_option maxRecDepth 100000 in
set_option maxHeartbeats 32000000 in
theorem alive_calls (w : World) (hG : GOK w) : Calls Tryz.prog 9 #[] w fun e w' => e = .returned (.bool true) ∧ Below w.heap.size w w' := by
  have hT := Tryz.underlying32
  have hT3 := Tryz.underlying30
  have HG := Lib.hid hG
  clear hG
  have h3 := three w (.cells #[.int .i64 97, .int .i64 0] 3) (.cells #[.int .i64 2, .int .i64 3000, .int .i64 4100, .string ⟨#[]⟩, .bool false, .slice (some ⟨w.heap.size, 0, none⟩) 2 2, .int .i64 1] 32) (.cells #[.int .i64 4, .int .i64 (-1), .int .i64 (-1), .string ⟨#[120, 95, 49]⟩, .bool true, .slice none 0 0, .int .i64 0] 32)
  have H2 : Hid (AS w w.heap.size (w.heap.size + 1) (w.heap.size + 1 + 1) (((w.alloc (.cells #[.int .i64 97, .int .i64 0] 3)).alloc (.cells #[.int .i64 2, .int .i64 3000, .int .i64 4100, .string ⟨#[]⟩, .bool false, .slice (some ⟨w.heap.size, 0, none⟩) 2 2, .int .i64 1] 32)).alloc (.cells #[.int .i64 4, .int .i64 (-1), .int .i64 (-1), .string ⟨#[120, 95, 49]⟩, .bool true, .slice none 0 0, .int .i64 0] 32))) := Lib.hid ⟨h3.2.2.2, h3.1, h3.2.1, h3.2.2.1⟩
  clear h3
  go_enter Tryz.func9, Tryz.ntmps9
  try simp only [List.append_eq, List.cons_append, List.nil_append]
  go_upto_region 3 with fail
  generalize ((w.alloc (.cells #[.int .i64 97, .int .i64 0] 3)).alloc (.cells #[.int .i64 2, .int .i64 3000, .int .i64 4100, .string ⟨#[]⟩, .bool false, .slice (some ⟨w.heap.size, 0, none⟩) 2 2, .int .i64 1] 32)).alloc (.cells #[.int .i64 4, .int .i64 (-1), .int .i64 (-1), .string ⟨#[120, 95, 49]⟩, .bool true, .slice none 0 0, .int .i64 0] 32) = w2 at H2 ⊢
  have a0 := (blk_cell H2.out.a 0).trans rfl
  have a1 := (blk_cell H2.out.a 1).trans rfl
  have a2 := (blk_cell H2.out.a 2).trans rfl
  have a3 := (blk_cell H2.out.a 3).trans rfl
  have a4 := (blk_cell H2.out.a 4).trans rfl
  have a5 := (blk_cell H2.out.a 5).trans rfl
  have a6 := (blk_cell H2.out.a 6).trans rfl
  have b0 := (blk_cell H2.out.b 0).trans rfl
  have b1 := (blk_cell H2.out.b 1).trans rfl
  have b2 := (blk_cell H2.out.b 2).trans rfl
  have b3 := (blk_cell H2.out.b 3).trans rfl
  have b4 := (blk_cell H2.out.b 4).trans rfl
  have b5 := (blk_cell H2.out.b 5).trans rfl
  have b6 := (blk_cell H2.out.b 6).trans rfl
  have hA2 := H2.out.step (below_alloc (Below.refl w2.heap.size w2) (.cells #[.int .i64 2, .int .i64 3000, .int .i64 4100, .string ⟨#[]⟩, .bool false, .slice (some ⟨w.heap.size, 0, none⟩) 2 2, .int .i64 1, .int .i64 4, .int .i64 (-1), .int .i64 (-1), .string ⟨#[120, 95, 49]⟩, .bool true, .slice none 0 0, .int .i64 0] 32))
  have HX : Hid (Calls Tryz.prog 17 #[.slice (some ⟨w2.heap.size, 0, none⟩) 2 2] (w2.alloc (.cells #[.int .i64 2, .int .i64 3000, .int .i64 4100, .string ⟨#[]⟩, .bool false, .slice (some ⟨w.heap.size, 0, none⟩) 2 2, .int .i64 1, .int .i64 4, .int .i64 (-1), .int .i64 (-1), .string ⟨#[120, 95, 49]⟩, .bool true, .slice none 0 0, .int .i64 0] 32)) fun e w' => e = .returned (.tuple #[.string ⟨#[115, 104, 97, 100, 111, 119, 32, 51, 32, 52, 46, 49, 32, 97, 92, 117, 123, 48, 125, 64, 49, 10, 97, 108, 108, 111, 119, 101, 100, 32, 117, 110, 117, 115, 101, 100, 32, 36, 120, 95, 49, 10]⟩, .int .i64 0]) ∧ Below (w2.alloc (.cells #[.int .i64 2, .int .i64 3000, .int .i64 4100, .string ⟨#[]⟩, .bool false, .slice (some ⟨w.heap.size, 0, none⟩) 2 2, .int .i64 1, .int .i64 4, .int .i64 (-1), .int .i64 (-1), .string ⟨#[120, 95, 49]⟩, .bool true, .slice none 0 0, .int .i64 0] 32)).heap.size (w2.alloc (.cells #[.int .i64 2, .int .i64 3000, .int .i64 4100, .string ⟨#[]⟩, .bool false, .slice (some ⟨w.heap.size, 0, none⟩) 2 2, .int .i64 1, .int .i64 4, .int .i64 (-1), .int .i64 (-1), .string ⟨#[120, 95, 49]⟩, .bool true, .slice none 0 0, .int .i64 0] 32)) w') :=
    Lib.hid (note_Text.calls (some ⟨w2.heap.size, 0, none⟩) 2 [aS, bS] aTxt 0 _ (HG.out.step hA2.bel) (hA2.ab (row_cells (l := cellsA w.heap.size ++ cellsB) (blk_alloc w2 (.cells #[.int .i64 2, .int .i64 3000, .int .i64 4100, .string ⟨#[]⟩, .bool false, .slice (some ⟨w.heap.size, 0, none⟩) 2 2, .int .i64 1, .int .i64 4, .int .i64 (-1), .int .i64 (-1), .string ⟨#[120, 95, 49]⟩, .bool true, .slice none 0 0, .int .i64 0] 32)))) (by decide) al_text)
  have HA2 := Lib.hid hA2
  clear hA2
  go_wp2_with (go_at_call 17; refine HX.out.mono ?_)
  first | (rintro e w3 rfl hb3) | (rintro e w3 ⟨rfl, hb3⟩)
  have hs3 : (w2.alloc (.cells #[.int .i64 2, .int .i64 3000, .int .i64 4100, .string ⟨#[]⟩, .bool false, .slice (some ⟨w.heap.size, 0, none⟩) 2 2, .int .i64 1, .int .i64 4, .int .i64 (-1), .int .i64 (-1), .string ⟨#[120, 95, 49]⟩, .bool true, .slice none 0 0, .int .i64 0] 32)).heap.size = w2.heap.size + 1 := by simp
  have H3 : Hid (AS w w.heap.size (w.heap.size + 1) (w.heap.size + 1 + 1) w3) := Lib.hid (by first | exact HA2.out.step hb3 | exact HA2.out.step (by rw [hs3]; exact hb3))
  have HP : Hid (Calls Tryz.prog 21 #[.string ⟨#[115, 104, 97, 100, 111, 119, 32, 51, 32, 52, 46, 49, 32, 97, 92, 117, 123, 48, 125, 64, 49, 10, 97, 108, 108, 111, 119, 101, 100, 32, 117, 110, 117, 115, 101, 100, 32, 36, 120, 95, 49, 10]⟩] w3 fun e w' => ∃ v0 : Value, e = .returned (.tuple #[v0, .int .i64 0]) ∧ Kd.S k32 32 w' w3.heap.size (fun _ => True) v0 [aS, bS] ∧ Below w3.heap.size w3 w') := Lib.hid (note_Parse.calls 10 aTxt [aS, bS] 0 w3 (HG.out.step H3.out.bel) al_parse)
  clear hb3 hs3 HX HA2 H2 a0 b0 a1 b1 a2 b2 a3 b3 a4 b4 a5 b5 a6 b6
  try dsimp only
  go_wp2_with (go_at_call 21; refine HP.out.mono ?_)
  first | (rintro e w4 v4 rfl hS4 hb4) | (rintro e w4 ⟨v4, rfl, hS4, hb4⟩)
  obtain ⟨A5, c5, rfl⟩ := Kd.S_slice hS4
  obtain ⟨_, hc5, hC5⟩ := Kd.S_reads' hS4
  have hc5' : 2 ≤ c5 := hc5
  have HC4 : Hid (Kd.C k32 w4 A5 2 [aS, bS]) := Lib.hid hC5
  have H4 := Lib.hid (H3.out.step hb4)
  have HC5 := Lib.hid hc5'
  have HL : Hid (Calls Tryz.prog 11 #[.agg #[.int .i64 0, .int .i64 0, .int .i64 0, .string ⟨#[]⟩, .bool false, .slice none 0 0, .int .i64 0]] w4 fun e w' => e = .returned (.tuple #[.string ⟨#[]⟩, .int .i64 1]) ∧ Below w4.heap.size w4 w') := Lib.hid (note_Line.calls 0 0 0 ⟨#[]⟩ false none 0 [] 0 ⟨#[]⟩ 1 w4 (HG.out.step H4.out.bel) (nil_C w4) (by decide) al_line)
  clear hS4 hb4 hC5 hc5 hc5' HP H3
  try dsimp only
  try simp only [List.length_cons, List.length_nil]
  go_wp2_with (go_at_call 11; refine HL.out.mono ?_)
  first | (rintro e w5 rfl hb5) | (rintro e w5 ⟨rfl, hb5⟩)
  have H5 := Lib.hid (H4.out.step hb5)
  have HCC5 := Lib.hid (Kd.C_below HC4.out hb5)
  have HSY : Hid (Calls Tryz.prog 13 #[.agg #[.int .i64 4, .int .i64 (-1), .int .i64 (-1), .string ⟨#[120, 95, 49]⟩, .bool true, .slice none 0 0, .int .i64 0]] w5 fun e w' => e = .returned (.tuple #[.string ⟨#[110, 111, 32, 108, 105, 110, 101, 32, 117, 115, 101, 115, 32, 36, 120, 95, 49, 32, 40, 97, 108, 108, 111, 119, 101, 100, 41]⟩, .int .i64 0]) ∧ Below w5.heap.size w5 w') := Lib.hid (Say_b w5 (HG.out.step H5.out.bel))
  clear hb5 HL H4 HC4
  try dsimp only
  have a0 := (blk_cell H5.out.a 0).trans rfl
  have a1 := (blk_cell H5.out.a 1).trans rfl
  have a2 := (blk_cell H5.out.a 2).trans rfl
  have a3 := (blk_cell H5.out.a 3).trans rfl
  have a4 := (blk_cell H5.out.a 4).trans rfl
  have a5 := (blk_cell H5.out.a 5).trans rfl
  have a6 := (blk_cell H5.out.a 6).trans rfl
  have b0 := (blk_cell H5.out.b 0).trans rfl
  have b1 := (blk_cell H5.out.b 1).trans rfl
  have b2 := (blk_cell H5.out.b 2).trans rfl
  have b3 := (blk_cell H5.out.b 3).trans rfl
  have b4 := (blk_cell H5.out.b 4).trans rfl
  have b5 := (blk_cell H5.out.b 5).trans rfl
  have b6 := (blk_cell H5.out.b 6).trans rfl
  go_wp2_with (go_at_call 13; refine HSY.out.mono ?_)
  first | (rintro e w6 rfl hb6) | (rintro e w6 ⟨rfl, hb6⟩)
  have H6 := Lib.hid (H5.out.step hb6)
  have HCC6 := Lib.hid (Kd.C_below HCC5.out hb6)
  have HPB : Hid (Calls Tryz.prog 21 #[.string ⟨#[100, 101, 97, 100, 32, 48, 51, 10]⟩] w6 fun e w' => ∃ v0 : Value, e = .returned (.tuple #[v0, .int .i64 15]) ∧ Kd.S k32 32 w' w6.heap.size (fun _ => True) v0 [] ∧ Below w6.heap.size w6 w') := Lib.hid (note_Parse.calls 10 aBad [] 15 w6 (HG.out.step H6.out.bel) al_bad)
  clear hb6 HSY H5 HCC5 a0 b0 a1 b1 a2 b2 a3 b3 a4 b4 a5 b5 a6 b6
  try dsimp only
  go_wp2_with (go_at_call 21; refine HPB.out.mono ?_)
  first | (rintro e w8 v8 rfl hS8 hb8) | (rintro e w8 ⟨v8, rfl, hS8, hb8⟩)
  obtain ⟨A6, c6, rfl⟩ := Kd.S_slice hS8
  have H8 := Lib.hid (H6.out.step hb8)
  have HCC8 := Lib.hid (Kd.C_below HCC6.out hb8)
  clear hb8 hS8 HPB H6 HCC6
  try dsimp only
  have HSM : Hid (∀ (W : World) (g : Nat), AS w w.heap.size (w.heap.size + 1) (w.heap.size + 1 + 1) W → Kd.C k32 W A5 2 [aS, bS] → (∀ (j : Nat) v, (cellsA w.heap.size ++ cellsB)[j]? = some v → W.cell? ⟨g, j, none⟩ = some v) → Calls Tryz.prog 23 #[.slice A5 2 c5, .slice (some ⟨g, 0, none⟩) 2 2] W fun e w' => e = .returned (.bool true) ∧ Below W.heap.size W w') := Lib.hid (fun W g hA hC hr => same_rows w _ _ _ W A5 c5 g hA hC HC5.out hr)
  have HSN : Hid (∀ (W : World) (g1 cp g3 : Nat), AS w w.heap.size (w.heap.size + 1) (w.heap.size + 1 + 1) W → SQ W g1 (cellsA w.heap.size ++ cellsB) → W.heap[g3]? = some (.cells (cellsA w.heap.size ++ cellsB).toArray 32 (0, 0)) → 2 ≤ cp → Calls Tryz.prog 23 #[.slice (some ⟨g1, 0, none⟩) 2 cp, .slice (some ⟨g3, 0, none⟩) 2 2] W fun e w' => e = .returned (.bool true) ∧ Below W.heap.size W w') := Lib.hid (fun W g1 cp g3 hA hQ hr hc => same_rows w _ _ _ W (some ⟨g1, 0, none⟩) cp g3 hA (hA.ab hQ.cells) hc (row_cells hr))
  have HRT : Hid (∀ W : World, AS w w.heap.size (w.heap.size + 1) (w.heap.size + 1 + 1) W → Calls Tryz.prog 15 #[.agg #[.int .i64 2, .int .i64 3000, .int .i64 4100, .string ⟨#[]⟩, .bool false, .slice (some ⟨w.heap.size, 0, none⟩) 2 2, .int .i64 1]] W fun e w' => e = .returned (.bool true) ∧ Below W.heap.size W w') := Lib.hid (fun W hA => note_Right.calls 2 3000 4100 ⟨#[]⟩ false (some ⟨w.heap.size, 0, none⟩) 2 [97, 0] 1 true W (HG.out.step hA.bel) hA.text (by decide) al_right)
  have HBT : Hid (∀ W : World, AS w w.heap.size (w.heap.size + 1) (w.heap.size + 1 + 1) W → Calls Tryz.prog 26 #[.agg #[.int .i64 2, .int .i64 3000, .int .i64 4100, .string ⟨#[]⟩, .bool false, .slice (some ⟨w.heap.size, 0, none⟩) 2 2, .int .i64 1], .agg #[.int .i64 4, .int .i64 (-1), .int .i64 (-1), .string ⟨#[120, 95, 49]⟩, .bool true, .slice none 0 0, .int .i64 0]] W fun e w' => e = .returned (.bool true) ∧ Below W.heap.size W w') := Lib.hid (fun W hA => before_ab W (some ⟨w.heap.size, 0, none⟩) 2 2)
  have HWT : Hid (∀ W : World, Calls Tryz.prog 19 #[.int .i64 7] W fun e w' => e = .returned (.string ⟨#[103, 97, 105, 110, 115]⟩) ∧ Below W.heap.size W w') := Lib.hid (fun W => note_Word.calls 7 ⟨#[103, 97, 105, 110, 115]⟩ W rfl)
  go_upto_region 8 with fail
  have HD : Hid (AS w w.heap.size (w.heap.size + 1) (w.heap.size + 1 + 1) w8.drew) := Lib.hid (H8.out.step (Below.refl _ _).drew)
  have HPd : Hid (Kd.C k32 w8.drew A5 2 [aS, bS]) := Lib.hid (Kd.C_below HCC8.out (Below.refl _ _).drew)
  have z0 := (blk_cell HD.out.a 0).trans rfl
  have z1 := (blk_cell HD.out.a 1).trans rfl
  have z2 := (blk_cell HD.out.a 2).trans rfl
  have z3 := (blk_cell HD.out.a 3).trans rfl
  have z4 := (blk_cell HD.out.a 4).trans rfl
  have z5 := (blk_cell HD.out.a 5).trans rfl
  have z6 := (blk_cell HD.out.a 6).trans rfl
  have z7 := (blk_cell HD.out.b 0).trans rfl
  have z8 := (blk_cell HD.out.b 1).trans rfl
  have z9 := (blk_cell HD.out.b 2).trans rfl
  have z10 := (blk_cell HD.out.b 3).trans rfl
  have z11 := (blk_cell HD.out.b 4).trans rfl
  have z12 := (blk_cell HD.out.b 5).trans rfl
  have z13 := (blk_cell HD.out.b 6).trans rfl
  refine start_ (n := 57) (S := fun w' => w'.cell? ⟨w.heap.size + 1, 0, none⟩ = some (.int .i64 2) ∧ w'.cell? ⟨w.heap.size + 1, 1, none⟩ = some (.int .i64 3000) ∧ w'.cell? ⟨w.heap.size + 1, 2, none⟩ = some (.int .i64 4100) ∧ w'.cell? ⟨w.heap.size + 1, 3, none⟩ = some (.string ⟨#[]⟩) ∧ w'.cell? ⟨w.heap.size + 1, 4, none⟩ = some (.bool false) ∧ w'.cell? ⟨w.heap.size + 1, 5, none⟩ = some (.slice (some ⟨w.heap.size, 0, none⟩) 2 2) ∧ w'.cell? ⟨w.heap.size + 1, 6, none⟩ = some (.int .i64 1) ∧ w'.cell? ⟨w.heap.size + 1 + 1, 0, none⟩ = some (.int .i64 4) ∧ w'.cell? ⟨w.heap.size + 1 + 1, 1, none⟩ = some (.int .i64 (-1)) ∧ w'.cell? ⟨w.heap.size + 1 + 1, 2, none⟩ = some (.int .i64 (-1)) ∧ w'.cell? ⟨w.heap.size + 1 + 1, 3, none⟩ = some (.string ⟨#[120, 95, 49]⟩) ∧ w'.cell? ⟨w.heap.size + 1 + 1, 4, none⟩ = some (.bool true) ∧ w'.cell? ⟨w.heap.size + 1 + 1, 5, none⟩ = some (.slice none 0 0) ∧ w'.cell? ⟨w.heap.size + 1 + 1, 6, none⟩ = some (.int .i64 0)) (ds := []) #[false, false, false, false, false, false, false, false, false, false, false, false, false, false, false, false, false, false, false, false, false, false, false, false, false, false, false, false, false, false, false, false, false, false, false, false, false, false, false, false, false, false, false, false, false, false, false, false, false, false, false, false, false, false, false, false, false] (by kernel_rfl) rfl rfl ⟨z0, z1, z2, z3, z4, z5, z6, z7, z8, z9, z10, z11, z12, z13⟩ (fun hHeld => ?_)
  generalize w8.drew = wd at HD HPd z0 z1 z2 z3 z4 z5 z6 z7 z8 z9 z10 z11 z12 z13 hHeld ⊢
  refine pure_ (i := 0) (N := some 43) (v := ?_) (a' := ?_) #[true, false, false, false, false, false, false, false, false, false, false, false, false, false, false, false, false, false, false, false, false, false, false, false, false, false, false, false, false, false, false, false, false, false, false, false, false, false, false, false, false, false, false, false, false, false, false, false, false, false, false, false, false, false, false, false, false] rfl rfl (by kernel_rfl) (fun _ _ _ h => h) (Or.inl ⟨by rfl, ?_⟩) ?_ ?_
  rotate_left
  · intro w'
    go_simp
    with_reducible rfl
  rotate_left
  · simp only [Act.put, List.setIfInBounds_toArray, List.set_cons_zero, List.set_cons_succ, i64_w, i32_w]
    rfl
  refine pure_ (i := 1) (N := some 44) (v := ?_) (a' := ?_) #[true, true, false, false, false, false, false, false, false, false, false, false, false, false, false, false, false, false, false, false, false, false, false, false, false, false, false, false, false, false, false, false, false, false, false, false, false, false, false, false, false, false, false, false, false, false, false, false, false, false, false, false, false, false, false, false, false] rfl rfl (by kernel_rfl) (fun _ _ _ h => h) (Or.inl ⟨by rfl, ?_⟩) ?_ ?_
  rotate_left
  · intro w'
    go_simp
    with_reducible rfl
  rotate_left
  · simp only [Act.put, List.setIfInBounds_toArray, List.set_cons_zero, List.set_cons_succ, i64_w, i32_w]
    rfl
  refine pure_ (i := 2) (N := some 45) (v := ?_) (a' := ?_) #[true, true, true, false, false, false, false, false, false, false, false, false, false, false, false, false, false, false, false, false, false, false, false, false, false, false, false, false, false, false, false, false, false, false, false, false, false, false, false, false, false, false, false, false, false, false, false, false, false, false, false, false, false, false, false, false, false] rfl rfl (by kernel_rfl) (fun _ _ _ h => h) (Or.inl ⟨by rfl, ?_⟩) ?_ ?_
  rotate_left
  · intro w'
    go_simp
    with_reducible rfl
  rotate_left
  · simp only [Act.put, List.setIfInBounds_toArray, List.set_cons_zero, List.set_cons_succ, i64_w, i32_w]
    rfl
  refine pure_ (i := 3) (N := some 46) (v := ?_) (a' := ?_) #[true, true, true, true, false, false, false, false, false, false, false, false, false, false, false, false, false, false, false, false, false, false, false, false, false, false, false, false, false, false, false, false, false, false, false, false, false, false, false, false, false, false, false, false, false, false, false, false, false, false, false, false, false, false, false, false, false] rfl rfl (by kernel_rfl) (fun _ _ _ h => h) (Or.inl ⟨by rfl, ?_⟩) ?_ ?_
  rotate_left
  · intro w'
    go_simp
    with_reducible rfl
  rotate_left
  · simp only [Act.put, List.setIfInBounds_toArray, List.set_cons_zero, List.set_cons_succ, i64_w, i32_w]
    rfl
  refine pure_ (i := 4) (N := some 47) (v := ?_) (a' := ?_) #[true, true, true, true, true, false, false, false, false, false, false, false, false, false, false, false, false, false, false, false, false, false, false, false, false, false, false, false, false, false, false, false, false, false, false, false, false, false, false, false, false, false, false, false, false, false, false, false, false, false, false, false, false, false, false, false, false] rfl rfl (by kernel_rfl) (fun _ _ _ h => h) (Or.inl ⟨by rfl, ?_⟩) ?_ ?_
  rotate_left
  · intro w'
    go_simp
    with_reducible rfl
  rotate_left
  · simp only [Act.put, List.setIfInBounds_toArray, List.set_cons_zero, List.set_cons_succ, i64_w, i32_w]
    rfl
  refine pure_ (i := 5) (N := some 48) (v := ?_) (a' := ?_) #[true, true, true, true, true, true, false, false, false, false, false, false, false, false, false, false, false, false, false, false, false, false, false, false, false, false, false, false, false, false, false, false, false, false, false, false, false, false, false, false, false, false, false, false, false, false, false, false, false, false, false, false, false, false, false, false, false] rfl rfl (by kernel_rfl) (fun _ _ _ h => h) (Or.inl ⟨by rfl, ?_⟩) ?_ ?_
  rotate_left
  · intro w'
    go_simp
    with_reducible rfl
  rotate_left
  · simp only [Act.put, List.setIfInBounds_toArray, List.set_cons_zero, List.set_cons_succ, i64_w, i32_w]
    rfl
  refine pure_ (i := 6) (N := some 49) (v := ?_) (a' := ?_) #[true, true, true, true, true, true, true, false, false, false, false, false, false, false, false, false, false, false, false, false, false, false, false, false, false, false, false, false, false, false, false, false, false, false, false, false, false, false, false, false, false, false, false, false, false, false, false, false, false, false, false, false, false, false, false, false, false] rfl rfl (by kernel_rfl) (fun _ _ _ h => h) (Or.inl ⟨by rfl, ?_⟩) ?_ ?_
  rotate_left
  · intro w'
    go_simp
    with_reducible rfl
  rotate_left
  · simp only [Act.put, List.setIfInBounds_toArray, List.set_cons_zero, List.set_cons_succ, i64_w, i32_w]
    rfl
  refine pure_ (i := 7) (N := some 50) (v := ?_) (a' := ?_) #[true, true, true, true, true, true, true, true, false, false, false, false, false, false, false, false, false, false, false, false, false, false, false, false, false, false, false, false, false, false, false, false, false, false, false, false, false, false, false, false, false, false, false, false, false, false, false, false, false, false, false, false, false, false, false, false, false] rfl rfl (by kernel_rfl) (fun _ _ _ h => h) (Or.inl ⟨by rfl, ?_⟩) ?_ ?_
  rotate_left
  · intro w'
    go_simp
    with_reducible rfl
  rotate_left
  · simp only [Act.put, List.setIfInBounds_toArray, List.set_cons_zero, List.set_cons_succ, i64_w, i32_w]
    rfl
  refine pure_ (i := 8) (N := some 51) (v := ?_) (a' := ?_) #[true, true, true, true, true, true, true, true, true, false, false, false, false, false, false, false, false, false, false, false, false, false, false, false, false, false, false, false, false, false, false, false, false, false, false, false, false, false, false, false, false, false, false, false, false, false, false, false, false, false, false, false, false, false, false, false, false] rfl rfl (by kernel_rfl) (fun _ _ _ h => h) (Or.inl ⟨by rfl, ?_⟩) ?_ ?_
  rotate_left
  · intro w'
    go_simp
    with_reducible rfl
  rotate_left
  · simp only [Act.put, List.setIfInBounds_toArray, List.set_cons_zero, List.set_cons_succ, i64_w, i32_w]
    rfl
  refine pure_ (i := 9) (N := some 52) (v := ?_) (a' := ?_) #[true, true, true, true, true, true, true, true, true, true, false, false, false, false, false, false, false, false, false, false, false, false, false, false, false, false, false, false, false, false, false, false, false, false, false, false, false, false, false, false, false, false, false, false, false, false, false, false, false, false, false, false, false, false, false, false, false] rfl rfl (by kernel_rfl) (fun _ _ _ h => h) (Or.inl ⟨by rfl, ?_⟩) ?_ ?_
  rotate_left
  · intro w'
    go_simp
    with_reducible rfl
  rotate_left
  · simp only [Act.put, List.setIfInBounds_toArray, List.set_cons_zero, List.set_cons_succ, i64_w, i32_w]
    rfl
  refine pure_ (i := 10) (N := some 53) (v := ?_) (a' := ?_) #[true, true, true, true, true, true, true, true, true, true, true, false, false, false, false, false, false, false, false, false, false, false, false, false, false, false, false, false, false, false, false, false, false, false, false, false, false, false, false, false, false, false, false, false, false, false, false, false, false, false, false, false, false, false, false, false, false] rfl rfl (by kernel_rfl) (fun _ _ _ h => h) (Or.inl ⟨by rfl, ?_⟩) ?_ ?_
  rotate_left
  · intro w'
    go_simp
    with_reducible rfl
  rotate_left
  · simp only [Act.put, List.setIfInBounds_toArray, List.set_cons_zero, List.set_cons_succ, i64_w, i32_w]
    rfl
  refine pure_ (i := 11) (N := some 54) (v := ?_) (a' := ?_) #[true, true, true, true, true, true, true, true, true, true, true, true, false, false, false, false, false, false, false, false, false, false, false, false, false, false, false, false, false, false, false, false, false, false, false, false, false, false, false, false, false, false, false, false, false, false, false, false, false, false, false, false, false, false, false, false, false] rfl rfl (by kernel_rfl) (fun _ _ _ h => h) (Or.inl ⟨by rfl, ?_⟩) ?_ ?_
  rotate_left
  · intro w'
    go_simp
    with_reducible rfl
  rotate_left
  · simp only [Act.put, List.setIfInBounds_toArray, List.set_cons_zero, List.set_cons_succ, i64_w, i32_w]
    rfl
  refine take_ (i := 12) (N := some 55) (v := ?_) (a' := ?_) #[true, true, true, true, true, true, true, true, true, true, true, true, true, false, false, false, false, false, false, false, false, false, false, false, false, false, false, false, false, false, false, false, false, false, false, false, false, false, false, false, false, false, false, false, false, false, false, false, false, false, false, false, false, false, false, false, false] rfl rfl (by kernel_rfl) (fun _ _ _ h => h) (Or.inl ⟨by rfl, ?_⟩) hHeld ?_ ?_
  rotate_left
  · rintro w' ⟨s0, s1, s2, s3, s4, s5, s6, s7, s8, s9, s10, s11, s12, s13⟩
    go_simp
    with_reducible rfl
  rotate_left
  · simp only [Act.put, List.setIfInBounds_toArray, List.set_cons_zero, List.set_cons_succ, i64_w, i32_w]
    rfl
  refine take_ (i := 13) (N := some 56) (v := ?_) (a' := ?_) #[true, true, true, true, true, true, true, true, true, true, true, true, true, true, false, false, false, false, false, false, false, false, false, false, false, false, false, false, false, false, false, false, false, false, false, false, false, false, false, false, false, false, false, false, false, false, false, false, false, false, false, false, false, false, false, false, false] rfl rfl (by kernel_rfl) (fun _ _ _ h => h) (Or.inl ⟨by rfl, ?_⟩) hHeld ?_ ?_
  rotate_left
  · rintro w' ⟨s0, s1, s2, s3, s4, s5, s6, s7, s8, s9, s10, s11, s12, s13⟩
    go_simp
    with_reducible rfl
  rotate_left
  · simp only [Act.put, List.setIfInBounds_toArray, List.set_cons_zero, List.set_cons_succ, i64_w, i32_w]
    rfl
  refine one_ (i := 14) (N := some 57) #[true, true, true, true, true, true, true, true, true, true, true, true, true, true, true, false, false, false, false, false, false, false, false, false, false, false, false, false, false, false, false, false, false, false, false, false, false, false, false, false, false, false, false, false, false, false, false, false, false, false, false, false, false, false, false, false, false] rfl rfl (by kernel_rfl) (by decide) (fun K hK => ?_)
  refine value_ (w1 := ?_) (v := ?_) (by rfl) rfl ?_ ?_
  rotate_left 2
  · go_simp
    constructor
    · rfl
    · rfl
  refine hK.out _ _ ⟨cell_alloc _ z0, cell_alloc _ z1, cell_alloc _ z2, cell_alloc _ z3, cell_alloc _ z4, cell_alloc _ z5, cell_alloc _ z6, cell_alloc _ z7, cell_alloc _ z8, cell_alloc _ z9, cell_alloc _ z10, cell_alloc _ z11, cell_alloc _ z12, cell_alloc _ z13⟩ (fun hHeld => ?_)
  clear hK K
  refine norm_ (a' := ?_) ?_ ?_
  rotate_left
  · show Act.put _ (some 57) _ = _
    simp only [Act.put, List.setIfInBounds_toArray, List.set_cons_zero, List.set_cons_succ, i64_w, i32_w]
    rfl
  refine one_ (i := 15) (N := some 58) #[true, true, true, true, true, true, true, true, true, true, true, true, true, true, true, true, false, false, false, false, false, false, false, false, false, false, false, false, false, false, false, false, false, false, false, false, false, false, false, false, false, false, false, false, false, false, false, false, false, false, false, false, false, false, false, false, false] rfl rfl (by kernel_rfl) (by decide) (fun K hK => ?_)
  refine goes_ Tryz.func23 (by kernel_rfl) rfl #[.slice A5 2 c5, .slice (some ⟨wd.heap.size, 0, none⟩) 2 2] (by rfl) rfl rfl (by simp only [List.map_toArray, List.map_cons, List.map_nil]; rfl) ?_
  with_reducible refine (HSM.out _ wd.heap.size (HD.out.step (below_alloc (Below.refl _ _) _)) (Kd.C_below HPd.out (below_alloc (Below.refl _ _) _)) (row_cells (l := cellsA w.heap.size ++ cellsB) (blk_alloc wd (.cells #[.int .i64 2, .int .i64 3000, .int .i64 4100, .string ⟨#[]⟩, .bool false, .slice (some ⟨w.heap.size, 0, none⟩) 2 2, .int .i64 1, .int .i64 4, .int .i64 (-1), .int .i64 (-1), .string ⟨#[120, 95, 49]⟩, .bool true, .slice none 0 0, .int .i64 0] 32)))).mono ?_
  rintro e w15 ⟨rfl, hb15⟩
  refine ⟨_, rfl, ?_⟩
  have HD15 := Lib.hid ((HD.out.step (below_alloc (Below.refl _ _) _)).step hb15)
  clear hb15
  refine hK.out _ _ ⟨(blk_cell HD15.out.a 0).trans rfl, (blk_cell HD15.out.a 1).trans rfl, (blk_cell HD15.out.a 2).trans rfl, (blk_cell HD15.out.a 3).trans rfl, (blk_cell HD15.out.a 4).trans rfl, (blk_cell HD15.out.a 5).trans rfl, (blk_cell HD15.out.a 6).trans rfl, (blk_cell HD15.out.b 0).trans rfl, (blk_cell HD15.out.b 1).trans rfl, (blk_cell HD15.out.b 2).trans rfl, (blk_cell HD15.out.b 3).trans rfl, (blk_cell HD15.out.b 4).trans rfl, (blk_cell HD15.out.b 5).trans rfl, (blk_cell HD15.out.b 6).trans rfl⟩ (fun hHeld => ?_)
  clear hK K
  refine norm_ (a' := ?_) ?_ ?_
  rotate_left
  · show Act.put _ (some 58) _ = _
    simp only [Act.put, List.setIfInBounds_toArray, List.set_cons_zero, List.set_cons_succ, i64_w, i32_w]
    rfl
  refine pure_ (i := 16) (N := some 59) (v := ?_) (a' := ?_) #[true, true, true, true, true, true, true, true, true, true, true, true, true, true, true, true, true, false, false, false, false, false, false, false, false, false, false, false, false, false, false, false, false, false, false, false, false, false, false, false, false, false, false, false, false, false, false, false, false, false, false, false, false, false, false, false, false] rfl rfl (by kernel_rfl) (fun _ _ _ h => h) (Or.inl ⟨by rfl, ?_⟩) ?_ ?_
  rotate_left
  · intro w'
    go_simp
    with_reducible rfl
  rotate_left
  · simp only [Act.put, List.setIfInBounds_toArray, List.set_cons_zero, List.set_cons_succ, i64_w, i32_w]
    rfl
  refine pure_ (i := 17) (N := some 60) (v := ?_) (a' := ?_) #[true, true, true, true, true, true, true, true, true, true, true, true, true, true, true, true, true, true, false, false, false, false, false, false, false, false, false, false, false, false, false, false, false, false, false, false, false, false, false, false, false, false, false, false, false, false, false, false, false, false, false, false, false, false, false, false, false] rfl rfl (by kernel_rfl) (fun _ _ _ h => h) (Or.inl ⟨by rfl, ?_⟩) ?_ ?_
  rotate_left
  · intro w'
    go_simp
    with_reducible rfl
  rotate_left
  · simp only [Act.put, List.setIfInBounds_toArray, List.set_cons_zero, List.set_cons_succ, i64_w, i32_w]
    rfl
  refine pure_ (i := 18) (N := some 61) (v := ?_) (a' := ?_) #[true, true, true, true, true, true, true, true, true, true, true, true, true, true, true, true, true, true, true, false, false, false, false, false, false, false, false, false, false, false, false, false, false, false, false, false, false, false, false, false, false, false, false, false, false, false, false, false, false, false, false, false, false, false, false, false, false] rfl rfl (by kernel_rfl) (fun _ _ _ h => h) (Or.inl ⟨by rfl, ?_⟩) ?_ ?_
  rotate_left
  · intro w'
    go_simp
    with_reducible rfl
  rotate_left
  · simp only [Act.put, List.setIfInBounds_toArray, List.set_cons_zero, List.set_cons_succ, i64_w, i32_w]
    rfl
  refine pure_ (i := 19) (N := some 62) (v := ?_) (a' := ?_) #[true, true, true, true, true, true, true, true, true, true, true, true, true, true, true, true, true, true, true, true, false, false, false, false, false, false, false, false, false, false, false, false, false, false, false, false, false, false, false, false, false, false, false, false, false, false, false, false, false, false, false, false, false, false, false, false, false] rfl rfl (by kernel_rfl) (fun _ _ _ h => h) (Or.inl ⟨by rfl, ?_⟩) ?_ ?_
  rotate_left
  · intro w'
    go_simp
    with_reducible rfl
  rotate_left
  · simp only [Act.put, List.setIfInBounds_toArray, List.set_cons_zero, List.set_cons_succ, i64_w, i32_w]
    rfl
  refine pure_ (i := 20) (N := some 63) (v := ?_) (a' := ?_) #[true, true, true, true, true, true, true, true, true, true, true, true, true, true, true, true, true, true, true, true, true, false, false, false, false, false, false, false, false, false, false, false, false, false, false, false, false, false, false, false, false, false, false, false, false, false, false, false, false, false, false, false, false, false, false, false, false] rfl rfl (by kernel_rfl) (fun _ _ _ h => h) (Or.inl ⟨by rfl, ?_⟩) ?_ ?_
  rotate_left
  · intro w'
    go_simp
    with_reducible rfl
  rotate_left
  · simp only [Act.put, List.setIfInBounds_toArray, List.set_cons_zero, List.set_cons_succ, i64_w, i32_w]
    rfl
  refine pure_ (i := 21) (N := some 64) (v := ?_) (a' := ?_) #[true, true, true, true, true, true, true, true, true, true, true, true, true, true, true, true, true, true, true, true, true, true, false, false, false, false, false, false, false, false, false, false, false, false, false, false, false, false, false, false, false, false, false, false, false, false, false, false, false, false, false, false, false, false, false, false, false] rfl rfl (by kernel_rfl) (fun _ _ _ h => h) (Or.inl ⟨by rfl, ?_⟩) ?_ ?_
  rotate_left
  · intro w'
    go_simp
    with_reducible rfl
  rotate_left
  · simp only [Act.put, List.setIfInBounds_toArray, List.set_cons_zero, List.set_cons_succ, i64_w, i32_w]
    rfl
  refine pure_ (i := 22) (N := some 65) (v := ?_) (a' := ?_) #[true, true, true, true, true, true, true, true, true, true, true, true, true, true, true, true, true, true, true, true, true, true, true, false, false, false, false, false, false, false, false, false, false, false, false, false, false, false, false, false, false, false, false, false, false, false, false, false, false, false, false, false, false, false, false, false, false] rfl rfl (by kernel_rfl) (fun _ _ _ h => h) (Or.inl ⟨by rfl, ?_⟩) ?_ ?_
  rotate_left
  · intro w'
    go_simp
    with_reducible rfl
  rotate_left
  · simp only [Act.put, List.setIfInBounds_toArray, List.set_cons_zero, List.set_cons_succ, i64_w, i32_w]
    rfl
  refine pure_ (i := 23) (N := some 66) (v := ?_) (a' := ?_) #[true, true, true, true, true, true, true, true, true, true, true, true, true, true, true, true, true, true, true, true, true, true, true, true, false, false, false, false, false, false, false, false, false, false, false, false, false, false, false, false, false, false, false, false, false, false, false, false, false, false, false, false, false, false, false, false, false] rfl rfl (by kernel_rfl) (fun _ _ _ h => h) (Or.inl ⟨by rfl, ?_⟩) ?_ ?_
  rotate_left
  · intro w'
    go_simp
    with_reducible rfl
  rotate_left
  · simp only [Act.put, List.setIfInBounds_toArray, List.set_cons_zero, List.set_cons_succ, i64_w, i32_w]
    rfl
  refine pure_ (i := 24) (N := some 67) (v := ?_) (a' := ?_) #[true, true, true, true, true, true, true, true, true, true, true, true, true, true, true, true, true, true, true, true, true, true, true, true, true, false, false, false, false, false, false, false, false, false, false, false, false, false, false, false, false, false, false, false, false, false, false, false, false, false, false, false, false, false, false, false, false] rfl rfl (by kernel_rfl) (fun _ _ _ h => h) (Or.inl ⟨by rfl, ?_⟩) ?_ ?_
  rotate_left
  · intro w'
    go_simp
    with_reducible rfl
  rotate_left
  · simp only [Act.put, List.setIfInBounds_toArray, List.set_cons_zero, List.set_cons_succ, i64_w, i32_w]
    rfl
  refine pure_ (i := 25) (N := some 68) (v := ?_) (a' := ?_) #[true, true, true, true, true, true, true, true, true, true, true, true, true, true, true, true, true, true, true, true, true, true, true, true, true, true, false, false, false, false, false, false, false, false, false, false, false, false, false, false, false, false, false, false, false, false, false, false, false, false, false, false, false, false, false, false, false] rfl rfl (by kernel_rfl) (fun _ _ _ h => h) (Or.inl ⟨by rfl, ?_⟩) ?_ ?_
  rotate_left
  · intro w'
    go_simp
    with_reducible rfl
  rotate_left
  · simp only [Act.put, List.setIfInBounds_toArray, List.set_cons_zero, List.set_cons_succ, i64_w, i32_w]
    rfl
  refine pure_ (i := 26) (N := some 69) (v := ?_) (a' := ?_) #[true, true, true, true, true, true, true, true, true, true, true, true, true, true, true, true, true, true, true, true, true, true, true, true, true, true, true, false, false, false, false, false, false, false, false, false, false, false, false, false, false, false, false, false, false, false, false, false, false, false, false, false, false, false, false, false, false] rfl rfl (by kernel_rfl) (fun _ _ _ h => h) (Or.inl ⟨by rfl, ?_⟩) ?_ ?_
  rotate_left
  · intro w'
    go_simp
    with_reducible rfl
  rotate_left
  · simp only [Act.put, List.setIfInBounds_toArray, List.set_cons_zero, List.set_cons_succ, i64_w, i32_w]
    rfl
  refine pure_ (i := 27) (N := some 70) (v := ?_) (a' := ?_) #[true, true, true, true, true, true, true, true, true, true, true, true, true, true, true, true, true, true, true, true, true, true, true, true, true, true, true, true, false, false, false, false, false, false, false, false, false, false, false, false, false, false, false, false, false, false, false, false, false, false, false, false, false, false, false, false, false] rfl rfl (by kernel_rfl) (fun _ _ _ h => h) (Or.inl ⟨by rfl, ?_⟩) ?_ ?_
  rotate_left
  · intro w'
    go_simp
    with_reducible rfl
  rotate_left
  · simp only [Act.put, List.setIfInBounds_toArray, List.set_cons_zero, List.set_cons_succ, i64_w, i32_w]
    rfl
  refine pure_ (i := 28) (N := some 71) (v := ?_) (a' := ?_) #[true, true, true, true, true, true, true, true, true, true, true, true, true, true, true, true, true, true, true, true, true, true, true, true, true, true, true, true, true, false, false, false, false, false, false, false, false, false, false, false, false, false, false, false, false, false, false, false, false, false, false, false, false, false, false, false, false] rfl rfl (by kernel_rfl) (fun _ _ _ h => h) (Or.inl ⟨by rfl, ?_⟩) ?_ ?_
  rotate_left
  · intro w'
    go_simp
    with_reducible rfl
  rotate_left
  · simp only [Act.put, List.setIfInBounds_toArray, List.set_cons_zero, List.set_cons_succ, i64_w, i32_w]
    rfl
  refine pure_ (i := 29) (N := some 72) (v := ?_) (a' := ?_) #[true, true, true, true, true, true, true, true, true, true, true, true, true, true, true, true, true, true, true, true, true, true, true, true, true, true, true, true, true, true, false, false, false, false, false, false, false, false, false, false, false, false, false, false, false, false, false, false, false, false, false, false, false, false, false, false, false] rfl rfl (by kernel_rfl) (fun _ _ _ h => h) (Or.inl ⟨by rfl, ?_⟩) ?_ ?_
  rotate_left
  · intro w'
    go_simp
    with_reducible rfl
  rotate_left
  · simp only [Act.put, List.setIfInBounds_toArray, List.set_cons_zero, List.set_cons_succ, i64_w, i32_w]
    rfl
  refine pure_ (i := 30) (N := some 73) (v := ?_) (a' := ?_) #[true, true, true, true, true, true, true, true, true, true, true, true, true, true, true, true, true, true, true, true, true, true, true, true, true, true, true, true, true, true, true, false, false, false, false, false, false, false, false, false, false, false, false, false, false, false, false, false, false, false, false, false, false, false, false, false, false] rfl rfl (by kernel_rfl) (fun _ _ _ h => h) (Or.inl ⟨by rfl, ?_⟩) ?_ ?_
  rotate_left
  · intro w'
    go_simp
    with_reducible rfl
  rotate_left
  · simp only [Act.put, List.setIfInBounds_toArray, List.set_cons_zero, List.set_cons_succ, i64_w, i32_w]
    rfl
  refine pure_ (i := 31) (N := some 74) (v := ?_) (a' := ?_) #[true, true, true, true, true, true, true, true, true, true, true, true, true, true, true, true, true, true, true, true, true, true, true, true, true, true, true, true, true, true, true, true, false, false, false, false, false, false, false, false, false, false, false, false, false, false, false, false, false, false, false, false, false, false, false, false, false] rfl rfl (by kernel_rfl) (fun _ _ _ h => h) (Or.inl ⟨by rfl, ?_⟩) ?_ ?_
  rotate_left
  · intro w'
    go_simp
    with_reducible rfl
  rotate_left
  · simp only [Act.put, List.setIfInBounds_toArray, List.set_cons_zero, List.set_cons_succ, i64_w, i32_w]
    rfl
  refine pure_ (i := 32) (N := some 75) (v := ?_) (a' := ?_) #[true, true, true, true, true, true, true, true, true, true, true, true, true, true, true, true, true, true, true, true, true, true, true, true, true, true, true, true, true, true, true, true, true, false, false, false, false, false, false, false, false, false, false, false, false, false, false, false, false, false, false, false, false, false, false, false, false] rfl rfl (by kernel_rfl) (fun _ _ _ h => h) (Or.inl ⟨by rfl, ?_⟩) ?_ ?_
  rotate_left
  · intro w'
    go_simp
    with_reducible rfl
  rotate_left
  · simp only [Act.put, List.setIfInBounds_toArray, List.set_cons_zero, List.set_cons_succ, i64_w, i32_w]
    rfl
  refine pure_ (i := 33) (N := some 76) (v := ?_) (a' := ?_) #[true, true, true, true, true, true, true, true, true, true, true, true, true, true, true, true, true, true, true, true, true, true, true, true, true, true, true, true, true, true, true, true, true, true, false, false, false, false, false, false, false, false, false, false, false, false, false, false, false, false, false, false, false, false, false, false, false] rfl rfl (by kernel_rfl) (fun _ _ _ h => h) (Or.inl ⟨by rfl, ?_⟩) ?_ ?_
  rotate_left
  · intro w'
    go_simp
    with_reducible rfl
  rotate_left
  · simp only [Act.put, List.setIfInBounds_toArray, List.set_cons_zero, List.set_cons_succ, i64_w, i32_w]
    rfl
  refine one_ (i := 34) (N := some 77) #[true, true, true, true, true, true, true, true, true, true, true, true, true, true, true, true, true, true, true, true, true, true, true, true, true, true, true, true, true, true, true, true, true, true, true, false, false, false, false, false, false, false, false, false, false, false, false, false, false, false, false, false, false, false, false, false, false] rfl rfl (by kernel_rfl) (by decide) (fun K hK => ?_)
  refine goes_ Tryz.func19 (by kernel_rfl) rfl #[.int .i64 7] (by rfl) rfl rfl (by simp only [List.map_toArray, List.map_cons, List.map_nil]; rfl) ?_
  with_reducible refine (HWT.out _).mono ?_
  rintro e w34 ⟨rfl, hb34⟩
  refine ⟨_, rfl, ?_⟩
  have HD34 := Lib.hid (HD15.out.step hb34)
  clear hb34
  refine hK.out _ _ ⟨(blk_cell HD34.out.a 0).trans rfl, (blk_cell HD34.out.a 1).trans rfl, (blk_cell HD34.out.a 2).trans rfl, (blk_cell HD34.out.a 3).trans rfl, (blk_cell HD34.out.a 4).trans rfl, (blk_cell HD34.out.a 5).trans rfl, (blk_cell HD34.out.a 6).trans rfl, (blk_cell HD34.out.b 0).trans rfl, (blk_cell HD34.out.b 1).trans rfl, (blk_cell HD34.out.b 2).trans rfl, (blk_cell HD34.out.b 3).trans rfl, (blk_cell HD34.out.b 4).trans rfl, (blk_cell HD34.out.b 5).trans rfl, (blk_cell HD34.out.b 6).trans rfl⟩ (fun hHeld => ?_)
  clear hK K
  refine norm_ (a' := ?_) ?_ ?_
  rotate_left
  · show Act.put _ (some 77) _ = _
    simp only [Act.put, List.setIfInBounds_toArray, List.set_cons_zero, List.set_cons_succ, i64_w, i32_w]
    rfl
  refine pure_ (i := 35) (N := some 78) (v := ?_) (a' := ?_) #[true, true, true, true, true, true, true, true, true, true, true, true, true, true, true, true, true, true, true, true, true, true, true, true, true, true, true, true, true, true, true, true, true, true, true, true, false, false, false, false, false, false, false, false, false, false, false, false, false, false, false, false, false, false, false, false, false] rfl rfl (by kernel_rfl) (fun _ _ _ h => h) (Or.inl ⟨by rfl, ?_⟩) ?_ ?_
  rotate_left
  · intro w'
    go_simp
    with_reducible rfl
  rotate_left
  · simp only [Act.put, List.setIfInBounds_toArray, List.set_cons_zero, List.set_cons_succ, i64_w, i32_w]
    rfl
  refine pure_ (i := 36) (N := some 79) (v := ?_) (a' := ?_) #[true, true, true, true, true, true, true, true, true, true, true, true, true, true, true, true, true, true, true, true, true, true, true, true, true, true, true, true, true, true, true, true, true, true, true, true, true, false, false, false, false, false, false, false, false, false, false, false, false, false, false, false, false, false, false, false, false] rfl rfl (by kernel_rfl) (fun _ _ _ h => h) (Or.inl ⟨by rfl, ?_⟩) ?_ ?_
  rotate_left
  · intro w'
    go_simp
    with_reducible rfl
  rotate_left
  · simp only [Act.put, List.setIfInBounds_toArray, List.set_cons_zero, List.set_cons_succ, i64_w, i32_w]
    rfl
  refine pure_ (i := 37) (N := some 80) (v := ?_) (a' := ?_) #[true, true, true, true, true, true, true, true, true, true, true, true, true, true, true, true, true, true, true, true, true, true, true, true, true, true, true, true, true, true, true, true, true, true, true, true, true, true, false, false, false, false, false, false, false, false, false, false, false, false, false, false, false, false, false, false, false] rfl rfl (by kernel_rfl) (fun _ _ _ h => h) (Or.inl ⟨by rfl, ?_⟩) ?_ ?_
  rotate_left
  · intro w'
    go_simp
    with_reducible rfl
  rotate_left
  · simp only [Act.put, List.setIfInBounds_toArray, List.set_cons_zero, List.set_cons_succ, i64_w, i32_w]
    rfl
  refine take_ (i := 38) (N := some 81) (v := ?_) (a' := ?_) #[true, true, true, true, true, true, true, true, true, true, true, true, true, true, true, true, true, true, true, true, true, true, true, true, true, true, true, true, true, true, true, true, true, true, true, true, true, true, true, false, false, false, false, false, false, false, false, false, false, false, false, false, false, false, false, false, false] rfl rfl (by kernel_rfl) (fun _ _ _ h => h) (Or.inl ⟨by rfl, ?_⟩) hHeld ?_ ?_
  rotate_left
  · rintro w' ⟨s0, s1, s2, s3, s4, s5, s6, s7, s8, s9, s10, s11, s12, s13⟩
    go_simp
    with_reducible rfl
  rotate_left
  · simp only [Act.put, List.setIfInBounds_toArray, List.set_cons_zero, List.set_cons_succ, i64_w, i32_w]
    rfl
  refine one_ (i := 39) (N := some 82) #[true, true, true, true, true, true, true, true, true, true, true, true, true, true, true, true, true, true, true, true, true, true, true, true, true, true, true, true, true, true, true, true, true, true, true, true, true, true, true, true, false, false, false, false, false, false, false, false, false, false, false, false, false, false, false, false, false] rfl rfl (by kernel_rfl) (by decide) (fun K hK => ?_)
  refine goes_ Tryz.func15 (by kernel_rfl) rfl #[.agg #[.int .i64 2, .int .i64 3000, .int .i64 4100, .string ⟨#[]⟩, .bool false, .slice (some ⟨w.heap.size, 0, none⟩) 2 2, .int .i64 1]] (by rfl) rfl rfl (by simp only [List.map_toArray, List.map_cons, List.map_nil]; rfl) ?_
  with_reducible refine (HRT.out _ HD34.out).mono ?_
  rintro e w39 ⟨rfl, hb39⟩
  refine ⟨_, rfl, ?_⟩
  have HD39 := Lib.hid (HD34.out.step hb39)
  clear hb39
  refine hK.out _ _ ⟨(blk_cell HD39.out.a 0).trans rfl, (blk_cell HD39.out.a 1).trans rfl, (blk_cell HD39.out.a 2).trans rfl, (blk_cell HD39.out.a 3).trans rfl, (blk_cell HD39.out.a 4).trans rfl, (blk_cell HD39.out.a 5).trans rfl, (blk_cell HD39.out.a 6).trans rfl, (blk_cell HD39.out.b 0).trans rfl, (blk_cell HD39.out.b 1).trans rfl, (blk_cell HD39.out.b 2).trans rfl, (blk_cell HD39.out.b 3).trans rfl, (blk_cell HD39.out.b 4).trans rfl, (blk_cell HD39.out.b 5).trans rfl, (blk_cell HD39.out.b 6).trans rfl⟩ (fun hHeld => ?_)
  clear hK K
  refine norm_ (a' := ?_) ?_ ?_
  rotate_left
  · show Act.put _ (some 82) _ = _
    simp only [Act.put, List.setIfInBounds_toArray, List.set_cons_zero, List.set_cons_succ, i64_w, i32_w]
    rfl
  refine pure_ (i := 40) (N := some 83) (v := ?_) (a' := ?_) #[true, true, true, true, true, true, true, true, true, true, true, true, true, true, true, true, true, true, true, true, true, true, true, true, true, true, true, true, true, true, true, true, true, true, true, true, true, true, true, true, true, false, false, false, false, false, false, false, false, false, false, false, false, false, false, false, false] rfl rfl (by kernel_rfl) (fun _ _ _ h => h) (Or.inl ⟨by rfl, ?_⟩) ?_ ?_
  rotate_left
  · intro w'
    go_simp
    with_reducible rfl
  rotate_left
  · simp only [Act.put, List.setIfInBounds_toArray, List.set_cons_zero, List.set_cons_succ, i64_w, i32_w]
    rfl
  refine pure_ (i := 41) (N := some 84) (v := ?_) (a' := ?_) #[true, true, true, true, true, true, true, true, true, true, true, true, true, true, true, true, true, true, true, true, true, true, true, true, true, true, true, true, true, true, true, true, true, true, true, true, true, true, true, true, true, true, false, false, false, false, false, false, false, false, false, false, false, false, false, false, false] rfl rfl (by kernel_rfl) (fun _ _ _ h => h) (Or.inl ⟨by rfl, ?_⟩) ?_ ?_
  rotate_left
  · intro w'
    go_simp
    with_reducible rfl
  rotate_left
  · simp only [Act.put, List.setIfInBounds_toArray, List.set_cons_zero, List.set_cons_succ, i64_w, i32_w]
    rfl
  refine take_ (i := 42) (N := some 85) (v := ?_) (a' := ?_) #[true, true, true, true, true, true, true, true, true, true, true, true, true, true, true, true, true, true, true, true, true, true, true, true, true, true, true, true, true, true, true, true, true, true, true, true, true, true, true, true, true, true, true, false, false, false, false, false, false, false, false, false, false, false, false, false, false] rfl rfl (by kernel_rfl) (fun _ _ _ h => h) (Or.inl ⟨by rfl, ?_⟩) hHeld ?_ ?_
  rotate_left
  · rintro w' ⟨s0, s1, s2, s3, s4, s5, s6, s7, s8, s9, s10, s11, s12, s13⟩
    go_simp
    with_reducible rfl
  rotate_left
  · simp only [Act.put, List.setIfInBounds_toArray, List.set_cons_zero, List.set_cons_succ, i64_w, i32_w]
    rfl
  refine take_ (i := 43) (N := some 86) (v := ?_) (a' := ?_) #[true, true, true, true, true, true, true, true, true, true, true, true, true, true, true, true, true, true, true, true, true, true, true, true, true, true, true, true, true, true, true, true, true, true, true, true, true, true, true, true, true, true, true, true, false, false, false, false, false, false, false, false, false, false, false, false, false] rfl rfl (by kernel_rfl) (fun _ _ _ h => h) (Or.inl ⟨by rfl, ?_⟩) hHeld ?_ ?_
  rotate_left
  · rintro w' ⟨s0, s1, s2, s3, s4, s5, s6, s7, s8, s9, s10, s11, s12, s13⟩
    go_simp
    with_reducible rfl
  rotate_left
  · simp only [Act.put, List.setIfInBounds_toArray, List.set_cons_zero, List.set_cons_succ, i64_w, i32_w]
    rfl
  refine one_ (i := 44) (N := some 87) #[true, true, true, true, true, true, true, true, true, true, true, true, true, true, true, true, true, true, true, true, true, true, true, true, true, true, true, true, true, true, true, true, true, true, true, true, true, true, true, true, true, true, true, true, true, false, false, false, false, false, false, false, false, false, false, false, false] rfl rfl (by kernel_rfl) (by decide) (fun K hK => ?_)
  refine goes_ Tryz.func26 (by kernel_rfl) rfl #[.agg #[.int .i64 2, .int .i64 3000, .int .i64 4100, .string ⟨#[]⟩, .bool false, .slice (some ⟨w.heap.size, 0, none⟩) 2 2, .int .i64 1], .agg #[.int .i64 4, .int .i64 (-1), .int .i64 (-1), .string ⟨#[120, 95, 49]⟩, .bool true, .slice none 0 0, .int .i64 0]] (by rfl) rfl rfl (by simp only [List.map_toArray, List.map_cons, List.map_nil]; rfl) ?_
  with_reducible refine (HBT.out _ HD39.out).mono ?_
  rintro e w44 ⟨rfl, hb44⟩
  refine ⟨_, rfl, ?_⟩
  have HD44 := Lib.hid (HD39.out.step hb44)
  clear hb44
  refine hK.out _ _ ⟨(blk_cell HD44.out.a 0).trans rfl, (blk_cell HD44.out.a 1).trans rfl, (blk_cell HD44.out.a 2).trans rfl, (blk_cell HD44.out.a 3).trans rfl, (blk_cell HD44.out.a 4).trans rfl, (blk_cell HD44.out.a 5).trans rfl, (blk_cell HD44.out.a 6).trans rfl, (blk_cell HD44.out.b 0).trans rfl, (blk_cell HD44.out.b 1).trans rfl, (blk_cell HD44.out.b 2).trans rfl, (blk_cell HD44.out.b 3).trans rfl, (blk_cell HD44.out.b 4).trans rfl, (blk_cell HD44.out.b 5).trans rfl, (blk_cell HD44.out.b 6).trans rfl⟩ (fun hHeld => ?_)
  clear hK K
  refine norm_ (a' := ?_) ?_ ?_
  rotate_left
  · show Act.put _ (some 87) _ = _
    simp only [Act.put, List.setIfInBounds_toArray, List.set_cons_zero, List.set_cons_succ, i64_w, i32_w]
    rfl
  refine pure_ (i := 45) (N := some 88) (v := ?_) (a' := ?_) #[true, true, true, true, true, true, true, true, true, true, true, true, true, true, true, true, true, true, true, true, true, true, true, true, true, true, true, true, true, true, true, true, true, true, true, true, true, true, true, true, true, true, true, true, true, true, false, false, false, false, false, false, false, false, false, false, false] rfl rfl (by kernel_rfl) (fun _ _ _ h => h) (Or.inl ⟨by rfl, ?_⟩) ?_ ?_
  rotate_left
  · intro w'
    go_simp
    with_reducible rfl
  rotate_left
  · simp only [Act.put, List.setIfInBounds_toArray, List.set_cons_zero, List.set_cons_succ, i64_w, i32_w]
    rfl
  refine pure_ (i := 46) (N := some 89) (v := ?_) (a' := ?_) #[true, true, true, true, true, true, true, true, true, true, true, true, true, true, true, true, true, true, true, true, true, true, true, true, true, true, true, true, true, true, true, true, true, true, true, true, true, true, true, true, true, true, true, true, true, true, true, false, false, false, false, false, false, false, false, false, false] rfl rfl (by kernel_rfl) (fun _ _ _ h => h) (Or.inl ⟨by rfl, ?_⟩) ?_ ?_
  rotate_left
  · intro w'
    go_simp
    with_reducible rfl
  rotate_left
  · simp only [Act.put, List.setIfInBounds_toArray, List.set_cons_zero, List.set_cons_succ, i64_w, i32_w]
    rfl
  refine take_ (i := 47) (N := some 90) (v := ?_) (a' := ?_) #[true, true, true, true, true, true, true, true, true, true, true, true, true, true, true, true, true, true, true, true, true, true, true, true, true, true, true, true, true, true, true, true, true, true, true, true, true, true, true, true, true, true, true, true, true, true, true, true, false, false, false, false, false, false, false, false, false] rfl rfl (by kernel_rfl) (fun _ _ _ h => h) (Or.inl ⟨by rfl, ?_⟩) hHeld ?_ ?_
  rotate_left
  · rintro w' ⟨s0, s1, s2, s3, s4, s5, s6, s7, s8, s9, s10, s11, s12, s13⟩
    go_simp
    with_reducible rfl
  rotate_left
  · simp only [Act.put, List.setIfInBounds_toArray, List.set_cons_zero, List.set_cons_succ, i64_w, i32_w]
    rfl
  refine take_ (i := 48) (N := some 91) (v := ?_) (a' := ?_) #[true, true, true, true, true, true, true, true, true, true, true, true, true, true, true, true, true, true, true, true, true, true, true, true, true, true, true, true, true, true, true, true, true, true, true, true, true, true, true, true, true, true, true, true, true, true, true, true, true, false, false, false, false, false, false, false, false] rfl rfl (by kernel_rfl) (fun _ _ _ h => h) (Or.inl ⟨by rfl, ?_⟩) hHeld ?_ ?_
  rotate_left
  · rintro w' ⟨s0, s1, s2, s3, s4, s5, s6, s7, s8, s9, s10, s11, s12, s13⟩
    go_simp
    with_reducible rfl
  rotate_left
  · simp only [Act.put, List.setIfInBounds_toArray, List.set_cons_zero, List.set_cons_succ, i64_w, i32_w]
    rfl
  refine take_ (i := 51) (N := some 94) (v := ?_) (a' := ?_) #[true, true, true, true, true, true, true, true, true, true, true, true, true, true, true, true, true, true, true, true, true, true, true, true, true, true, true, true, true, true, true, true, true, true, true, true, true, true, true, true, true, true, true, true, true, true, true, true, true, false, false, true, false, false, false, false, false] rfl rfl (by kernel_rfl) (fun _ _ _ h => h) (Or.inl ⟨by rfl, ?_⟩) hHeld ?_ ?_
  rotate_left
  · rintro w' ⟨s0, s1, s2, s3, s4, s5, s6, s7, s8, s9, s10, s11, s12, s13⟩
    go_simp
    with_reducible rfl
  rotate_left
  · simp only [Act.put, List.setIfInBounds_toArray, List.set_cons_zero, List.set_cons_succ, i64_w, i32_w]
    rfl
  refine take_ (i := 52) (N := some 95) (v := ?_) (a' := ?_) #[true, true, true, true, true, true, true, true, true, true, true, true, true, true, true, true, true, true, true, true, true, true, true, true, true, true, true, true, true, true, true, true, true, true, true, true, true, true, true, true, true, true, true, true, true, true, true, true, true, false, false, true, true, false, false, false, false] rfl rfl (by kernel_rfl) (fun _ _ _ h => h) (Or.inl ⟨by rfl, ?_⟩) hHeld ?_ ?_
  rotate_left
  · rintro w' ⟨s0, s1, s2, s3, s4, s5, s6, s7, s8, s9, s10, s11, s12, s13⟩
    go_simp
    with_reducible rfl
  rotate_left
  · simp only [Act.put, List.setIfInBounds_toArray, List.set_cons_zero, List.set_cons_succ, i64_w, i32_w]
    rfl
  refine join_ (σ := Nat × Nat × Nat × Nat) 3 #[true, true, true, true, true, true, true, true, true, true, true, true, true, true, true, true, true, true, true, true, true, true, true, true, true, true, true, true, true, true, true, true, true, true, true, true, true, true, true, true, true, true, true, true, true, true, true, true, true, true, true, true, true, true, false, false, false] (fun s => [(92, .slice (some ⟨s.1, 0, none⟩) 2 2), (93, .slice (some ⟨s.2.1, 0, none⟩) 2 s.2.2.1), (96, .slice (some ⟨s.2.2.2, 0, none⟩) 2 2)]) (fun s w' => FJ w w.heap.size (w.heap.size + 1) (w.heap.size + 1 + 1) s w') ?_ ?_
  rotate_left
  · intro hCont
    refine two_ (i := 49) (j := 53) (Ni := some 92) (Nj := some 96) #[true, true, true, true, true, true, true, true, true, true, true, true, true, true, true, true, true, true, true, true, true, true, true, true, true, true, true, true, true, true, true, true, true, true, true, true, true, true, true, true, true, true, true, true, true, true, true, true, true, true, false, true, true, false, false, false, false] #[true, true, true, true, true, true, true, true, true, true, true, true, true, true, true, true, true, true, true, true, true, true, true, true, true, true, true, true, true, true, true, true, true, true, true, true, true, true, true, true, true, true, true, true, true, true, true, true, true, false, false, true, true, true, false, false, false] rfl rfl rfl rfl (by kernel_rfl) (by decide) (by decide) (fun K hK => ?_) (fun K hK => ?_)
    · skip
      refine value_ (w1 := ?_) (v := ?_) (by rfl) rfl ?_ ?_
      rotate_left 2
      · go_simp
        constructor
        · rfl
        · rfl
      refine hK.out _ _ ⟨(blk_cell (HD44.out.step (below_alloc (Below.refl _ _) _)).a 0).trans rfl, (blk_cell (HD44.out.step (below_alloc (Below.refl _ _) _)).a 1).trans rfl, (blk_cell (HD44.out.step (below_alloc (Below.refl _ _) _)).a 2).trans rfl, (blk_cell (HD44.out.step (below_alloc (Below.refl _ _) _)).a 3).trans rfl, (blk_cell (HD44.out.step (below_alloc (Below.refl _ _) _)).a 4).trans rfl, (blk_cell (HD44.out.step (below_alloc (Below.refl _ _) _)).a 5).trans rfl, (blk_cell (HD44.out.step (below_alloc (Below.refl _ _) _)).a 6).trans rfl, (blk_cell (HD44.out.step (below_alloc (Below.refl _ _) _)).b 0).trans rfl, (blk_cell (HD44.out.step (below_alloc (Below.refl _ _) _)).b 1).trans rfl, (blk_cell (HD44.out.step (below_alloc (Below.refl _ _) _)).b 2).trans rfl, (blk_cell (HD44.out.step (below_alloc (Below.refl _ _) _)).b 3).trans rfl, (blk_cell (HD44.out.step (below_alloc (Below.refl _ _) _)).b 4).trans rfl, (blk_cell (HD44.out.step (below_alloc (Below.refl _ _) _)).b 5).trans rfl, (blk_cell (HD44.out.step (below_alloc (Below.refl _ _) _)).b 6).trans rfl⟩ (fun hHeld => ?_)
      clear hK K
      refine norm_ (a' := ?_) ?_ ?_
      rotate_left
      · show Act.put _ (some 92) _ = _
        simp only [Act.put, List.setIfInBounds_toArray, List.set_cons_zero, List.set_cons_succ, i64_w, i32_w]
        rfl
      refine two_ (i := 50) (j := 53) (Ni := some 93) (Nj := some 96) #[true, true, true, true, true, true, true, true, true, true, true, true, true, true, true, true, true, true, true, true, true, true, true, true, true, true, true, true, true, true, true, true, true, true, true, true, true, true, true, true, true, true, true, true, true, true, true, true, true, true, true, true, true, false, false, false, false] #[true, true, true, true, true, true, true, true, true, true, true, true, true, true, true, true, true, true, true, true, true, true, true, true, true, true, true, true, true, true, true, true, true, true, true, true, true, true, true, true, true, true, true, true, true, true, true, true, true, true, false, true, true, true, false, false, false] rfl rfl rfl rfl (by kernel_rfl) (by decide) (by decide) (fun K hK => ?_) (fun K hK => ?_)
      · skip
        refine goes_ Tryz.func24 (by kernel_rfl) rfl #[.slice (some ⟨w44.heap.size, 0, none⟩) 2 2] (by rfl) rfl rfl (by first | (simp only [List.map_toArray, List.map_cons, List.map_nil]; done) | (simp only [List.map_toArray, List.map_cons, List.map_nil]; rfl)) ?_
        with_reducible refine (sort_calls w w.heap.size (w.heap.size + 1) (w.heap.size + 1 + 1) _ ((HD44.out.step (below_alloc (Below.refl _ _) _))) w44.heap.size (row_cells (l := cellsB ++ cellsA w.heap.size) (blk_alloc w44 (.cells #[.int .i64 4, .int .i64 (-1), .int .i64 (-1), .string ⟨#[120, 95, 49]⟩, .bool true, .slice none 0 0, .int .i64 0, .int .i64 2, .int .i64 3000, .int .i64 4100, .string ⟨#[]⟩, .bool false, .slice (some ⟨w.heap.size, 0, none⟩) 2 2, .int .i64 1] 32)))).mono ?_
        rintro e w50 ⟨g9, cp9, rfl, hcp9, hsq9, hb50⟩
        refine ⟨_, rfl, ?_⟩
        refine hK.out _ _ ⟨(blk_cell ((HD44.out.step (below_alloc (Below.refl _ _) _)).step hb50).a 0).trans rfl, (blk_cell ((HD44.out.step (below_alloc (Below.refl _ _) _)).step hb50).a 1).trans rfl, (blk_cell ((HD44.out.step (below_alloc (Below.refl _ _) _)).step hb50).a 2).trans rfl, (blk_cell ((HD44.out.step (below_alloc (Below.refl _ _) _)).step hb50).a 3).trans rfl, (blk_cell ((HD44.out.step (below_alloc (Below.refl _ _) _)).step hb50).a 4).trans rfl, (blk_cell ((HD44.out.step (below_alloc (Below.refl _ _) _)).step hb50).a 5).trans rfl, (blk_cell ((HD44.out.step (below_alloc (Below.refl _ _) _)).step hb50).a 6).trans rfl, (blk_cell ((HD44.out.step (below_alloc (Below.refl _ _) _)).step hb50).b 0).trans rfl, (blk_cell ((HD44.out.step (below_alloc (Below.refl _ _) _)).step hb50).b 1).trans rfl, (blk_cell ((HD44.out.step (below_alloc (Below.refl _ _) _)).step hb50).b 2).trans rfl, (blk_cell ((HD44.out.step (below_alloc (Below.refl _ _) _)).step hb50).b 3).trans rfl, (blk_cell ((HD44.out.step (below_alloc (Below.refl _ _) _)).step hb50).b 4).trans rfl, (blk_cell ((HD44.out.step (below_alloc (Below.refl _ _) _)).step hb50).b 5).trans rfl, (blk_cell ((HD44.out.step (below_alloc (Below.refl _ _) _)).step hb50).b 6).trans rfl⟩ (fun hHeld => ?_)
        clear hK K
        refine norm_ (a' := ?_) ?_ ?_
        rotate_left
        · show Act.put _ (some 93) _ = _
          simp only [Act.put, List.setIfInBounds_toArray, List.set_cons_zero, List.set_cons_succ, i64_w, i32_w]
          rfl
        refine one_ (i := 53) (N := some 96) #[true, true, true, true, true, true, true, true, true, true, true, true, true, true, true, true, true, true, true, true, true, true, true, true, true, true, true, true, true, true, true, true, true, true, true, true, true, true, true, true, true, true, true, true, true, true, true, true, true, true, true, true, true, true, false, false, false] rfl rfl (by kernel_rfl) (by decide) (fun K hK => ?_)
        refine value_ (w1 := ?_) (v := ?_) (by rfl) rfl ?_ ?_
        rotate_left 2
        · go_simp
          constructor
          · rfl
          · rfl
        refine hK.out _ _ ⟨(blk_cell (((HD44.out.step (below_alloc (Below.refl _ _) _)).step hb50).step (below_alloc (Below.refl _ _) _)).a 0).trans rfl, (blk_cell (((HD44.out.step (below_alloc (Below.refl _ _) _)).step hb50).step (below_alloc (Below.refl _ _) _)).a 1).trans rfl, (blk_cell (((HD44.out.step (below_alloc (Below.refl _ _) _)).step hb50).step (below_alloc (Below.refl _ _) _)).a 2).trans rfl, (blk_cell (((HD44.out.step (below_alloc (Below.refl _ _) _)).step hb50).step (below_alloc (Below.refl _ _) _)).a 3).trans rfl, (blk_cell (((HD44.out.step (below_alloc (Below.refl _ _) _)).step hb50).step (below_alloc (Below.refl _ _) _)).a 4).trans rfl, (blk_cell (((HD44.out.step (below_alloc (Below.refl _ _) _)).step hb50).step (below_alloc (Below.refl _ _) _)).a 5).trans rfl, (blk_cell (((HD44.out.step (below_alloc (Below.refl _ _) _)).step hb50).step (below_alloc (Below.refl _ _) _)).a 6).trans rfl, (blk_cell (((HD44.out.step (below_alloc (Below.refl _ _) _)).step hb50).step (below_alloc (Below.refl _ _) _)).b 0).trans rfl, (blk_cell (((HD44.out.step (below_alloc (Below.refl _ _) _)).step hb50).step (below_alloc (Below.refl _ _) _)).b 1).trans rfl, (blk_cell (((HD44.out.step (below_alloc (Below.refl _ _) _)).step hb50).step (below_alloc (Below.refl _ _) _)).b 2).trans rfl, (blk_cell (((HD44.out.step (below_alloc (Below.refl _ _) _)).step hb50).step (below_alloc (Below.refl _ _) _)).b 3).trans rfl, (blk_cell (((HD44.out.step (below_alloc (Below.refl _ _) _)).step hb50).step (below_alloc (Below.refl _ _) _)).b 4).trans rfl, (blk_cell (((HD44.out.step (below_alloc (Below.refl _ _) _)).step hb50).step (below_alloc (Below.refl _ _) _)).b 5).trans rfl, (blk_cell (((HD44.out.step (below_alloc (Below.refl _ _) _)).step hb50).step (below_alloc (Below.refl _ _) _)).b 6).trans rfl⟩ (fun hHeld => ?_)
        clear hK K
        refine norm_ (a' := ?_) ?_ ?_
        rotate_left
        · show Act.put _ (some 96) _ = _
          simp only [Act.put, List.setIfInBounds_toArray, List.set_cons_zero, List.set_cons_succ, i64_w, i32_w]
          rfl
        exact norm_ (by first | (simp only [putAll, Act.put, List.setIfInBounds_toArray, List.set_cons_zero, List.set_cons_succ]; done) | (simp only [putAll, Act.put, List.setIfInBounds_toArray, List.set_cons_zero, List.set_cons_succ] <;> rfl)) (hCont (w44.heap.size, g9, cp9, w50.heap.size) _ ⟨((HD44.out.step (below_alloc (Below.refl _ _) _)).step hb50).step (below_alloc (Below.refl _ _) _), hsq9.step (below_alloc (Below.refl _ _) _), blk_alloc w50 (.cells #[.int .i64 2, .int .i64 3000, .int .i64 4100, .string ⟨#[]⟩, .bool false, .slice (some ⟨w.heap.size, 0, none⟩) 2 2, .int .i64 1, .int .i64 4, .int .i64 (-1), .int .i64 (-1), .string ⟨#[120, 95, 49]⟩, .bool true, .slice none 0 0, .int .i64 0] 32), hcp9⟩)
      · skip
        refine value_ (w1 := ?_) (v := ?_) (by rfl) rfl ?_ ?_
        rotate_left 2
        · go_simp
          constructor
          · rfl
          · rfl
        refine hK.out _ _ ⟨(blk_cell ((HD44.out.step (below_alloc (Below.refl _ _) _)).step (below_alloc (Below.refl _ _) _)).a 0).trans rfl, (blk_cell ((HD44.out.step (below_alloc (Below.refl _ _) _)).step (below_alloc (Below.refl _ _) _)).a 1).trans rfl, (blk_cell ((HD44.out.step (below_alloc (Below.refl _ _) _)).step (below_alloc (Below.refl _ _) _)).a 2).trans rfl, (blk_cell ((HD44.out.step (below_alloc (Below.refl _ _) _)).step (below_alloc (Below.refl _ _) _)).a 3).trans rfl, (blk_cell ((HD44.out.step (below_alloc (Below.refl _ _) _)).step (below_alloc (Below.refl _ _) _)).a 4).trans rfl, (blk_cell ((HD44.out.step (below_alloc (Below.refl _ _) _)).step (below_alloc (Below.refl _ _) _)).a 5).trans rfl, (blk_cell ((HD44.out.step (below_alloc (Below.refl _ _) _)).step (below_alloc (Below.refl _ _) _)).a 6).trans rfl, (blk_cell ((HD44.out.step (below_alloc (Below.refl _ _) _)).step (below_alloc (Below.refl _ _) _)).b 0).trans rfl, (blk_cell ((HD44.out.step (below_alloc (Below.refl _ _) _)).step (below_alloc (Below.refl _ _) _)).b 1).trans rfl, (blk_cell ((HD44.out.step (below_alloc (Below.refl _ _) _)).step (below_alloc (Below.refl _ _) _)).b 2).trans rfl, (blk_cell ((HD44.out.step (below_alloc (Below.refl _ _) _)).step (below_alloc (Below.refl _ _) _)).b 3).trans rfl, (blk_cell ((HD44.out.step (below_alloc (Below.refl _ _) _)).step (below_alloc (Below.refl _ _) _)).b 4).trans rfl, (blk_cell ((HD44.out.step (below_alloc (Below.refl _ _) _)).step (below_alloc (Below.refl _ _) _)).b 5).trans rfl, (blk_cell ((HD44.out.step (below_alloc (Below.refl _ _) _)).step (below_alloc (Below.refl _ _) _)).b 6).trans rfl⟩ (fun hHeld => ?_)
        clear hK K
        refine norm_ (a' := ?_) ?_ ?_
        rotate_left
        · show Act.put _ (some 96) _ = _
          simp only [Act.put, List.setIfInBounds_toArray, List.set_cons_zero, List.set_cons_succ, i64_w, i32_w]
          rfl
        refine one_ (i := 50) (N := some 93) #[true, true, true, true, true, true, true, true, true, true, true, true, true, true, true, true, true, true, true, true, true, true, true, true, true, true, true, true, true, true, true, true, true, true, true, true, true, true, true, true, true, true, true, true, true, true, true, true, true, true, true, true, true, true, false, false, false] rfl rfl (by kernel_rfl) (by decide) (fun K hK => ?_)
        refine goes_ Tryz.func24 (by kernel_rfl) rfl #[.slice (some ⟨w44.heap.size, 0, none⟩) 2 2] (by rfl) rfl rfl (by first | (simp only [List.map_toArray, List.map_cons, List.map_nil]; done) | (simp only [List.map_toArray, List.map_cons, List.map_nil]; rfl)) ?_
        with_reducible refine (sort_calls w w.heap.size (w.heap.size + 1) (w.heap.size + 1 + 1) _ (((HD44.out.step (below_alloc (Below.refl _ _) _)).step (below_alloc (Below.refl _ _) _))) w44.heap.size (row_cells (l := cellsB ++ cellsA w.heap.size) (blk_old (blk_alloc w44 (.cells #[.int .i64 4, .int .i64 (-1), .int .i64 (-1), .string ⟨#[120, 95, 49]⟩, .bool true, .slice none 0 0, .int .i64 0, .int .i64 2, .int .i64 3000, .int .i64 4100, .string ⟨#[]⟩, .bool false, .slice (some ⟨w.heap.size, 0, none⟩) 2 2, .int .i64 1] 32)) _))).mono ?_
        rintro e w50 ⟨g9, cp9, rfl, hcp9, hsq9, hb50⟩
        refine ⟨_, rfl, ?_⟩
        refine hK.out _ _ ⟨(blk_cell (((HD44.out.step (below_alloc (Below.refl _ _) _)).step (below_alloc (Below.refl _ _) _)).step hb50).a 0).trans rfl, (blk_cell (((HD44.out.step (below_alloc (Below.refl _ _) _)).step (below_alloc (Below.refl _ _) _)).step hb50).a 1).trans rfl, (blk_cell (((HD44.out.step (below_alloc (Below.refl _ _) _)).step (below_alloc (Below.refl _ _) _)).step hb50).a 2).trans rfl, (blk_cell (((HD44.out.step (below_alloc (Below.refl _ _) _)).step (below_alloc (Below.refl _ _) _)).step hb50).a 3).trans rfl, (blk_cell (((HD44.out.step (below_alloc (Below.refl _ _) _)).step (below_alloc (Below.refl _ _) _)).step hb50).a 4).trans rfl, (blk_cell (((HD44.out.step (below_alloc (Below.refl _ _) _)).step (below_alloc (Below.refl _ _) _)).step hb50).a 5).trans rfl, (blk_cell (((HD44.out.step (below_alloc (Below.refl _ _) _)).step (below_alloc (Below.refl _ _) _)).step hb50).a 6).trans rfl, (blk_cell (((HD44.out.step (below_alloc (Below.refl _ _) _)).step (below_alloc (Below.refl _ _) _)).step hb50).b 0).trans rfl, (blk_cell (((HD44.out.step (below_alloc (Below.refl _ _) _)).step (below_alloc (Below.refl _ _) _)).step hb50).b 1).trans rfl, (blk_cell (((HD44.out.step (below_alloc (Below.refl _ _) _)).step (below_alloc (Below.refl _ _) _)).step hb50).b 2).trans rfl, (blk_cell (((HD44.out.step (below_alloc (Below.refl _ _) _)).step (below_alloc (Below.refl _ _) _)).step hb50).b 3).trans rfl, (blk_cell (((HD44.out.step (below_alloc (Below.refl _ _) _)).step (below_alloc (Below.refl _ _) _)).step hb50).b 4).trans rfl, (blk_cell (((HD44.out.step (below_alloc (Below.refl _ _) _)).step (below_alloc (Below.refl _ _) _)).step hb50).b 5).trans rfl, (blk_cell (((HD44.out.step (below_alloc (Below.refl _ _) _)).step (below_alloc (Below.refl _ _) _)).step hb50).b 6).trans rfl⟩ (fun hHeld => ?_)
        clear hK K
        refine norm_ (a' := ?_) ?_ ?_
        rotate_left
        · show Act.put _ (some 93) _ = _
          simp only [Act.put, List.setIfInBounds_toArray, List.set_cons_zero, List.set_cons_succ, i64_w, i32_w]
          rfl
        exact norm_ (by first | (simp only [putAll, Act.put, List.setIfInBounds_toArray, List.set_cons_zero, List.set_cons_succ]; done) | (simp only [putAll, Act.put, List.setIfInBounds_toArray, List.set_cons_zero, List.set_cons_succ] <;> rfl)) (hCont (w44.heap.size, g9, cp9, w44.heap.size + 1) _ ⟨((HD44.out.step (below_alloc (Below.refl _ _) _)).step (below_alloc (Below.refl _ _) _)).step hb50, hsq9, (hb50.block _ (blk_lt (blk_next w44 _ (.cells #[.int .i64 2, .int .i64 3000, .int .i64 4100, .string ⟨#[]⟩, .bool false, .slice (some ⟨w.heap.size, 0, none⟩) 2 2, .int .i64 1, .int .i64 4, .int .i64 (-1), .int .i64 (-1), .string ⟨#[120, 95, 49]⟩, .bool true, .slice none 0 0, .int .i64 0] 32)))).trans (blk_next w44 _ (.cells #[.int .i64 2, .int .i64 3000, .int .i64 4100, .string ⟨#[]⟩, .bool false, .slice (some ⟨w.heap.size, 0, none⟩) 2 2, .int .i64 1, .int .i64 4, .int .i64 (-1), .int .i64 (-1), .string ⟨#[120, 95, 49]⟩, .bool true, .slice none 0 0, .int .i64 0] 32)), hcp9⟩)
    · skip
      refine value_ (w1 := ?_) (v := ?_) (by rfl) rfl ?_ ?_
      rotate_left 2
      · go_simp
        constructor
        · rfl
        · rfl
      refine hK.out _ _ ⟨(blk_cell (HD44.out.step (below_alloc (Below.refl _ _) _)).a 0).trans rfl, (blk_cell (HD44.out.step (below_alloc (Below.refl _ _) _)).a 1).trans rfl, (blk_cell (HD44.out.step (below_alloc (Below.refl _ _) _)).a 2).trans rfl, (blk_cell (HD44.out.step (below_alloc (Below.refl _ _) _)).a 3).trans rfl, (blk_cell (HD44.out.step (below_alloc (Below.refl _ _) _)).a 4).trans rfl, (blk_cell (HD44.out.step (below_alloc (Below.refl _ _) _)).a 5).trans rfl, (blk_cell (HD44.out.step (below_alloc (Below.refl _ _) _)).a 6).trans rfl, (blk_cell (HD44.out.step (below_alloc (Below.refl _ _) _)).b 0).trans rfl, (blk_cell (HD44.out.step (below_alloc (Below.refl _ _) _)).b 1).trans rfl, (blk_cell (HD44.out.step (below_alloc (Below.refl _ _) _)).b 2).trans rfl, (blk_cell (HD44.out.step (below_alloc (Below.refl _ _) _)).b 3).trans rfl, (blk_cell (HD44.out.step (below_alloc (Below.refl _ _) _)).b 4).trans rfl, (blk_cell (HD44.out.step (below_alloc (Below.refl _ _) _)).b 5).trans rfl, (blk_cell (HD44.out.step (below_alloc (Below.refl _ _) _)).b 6).trans rfl⟩ (fun hHeld => ?_)
      clear hK K
      refine norm_ (a' := ?_) ?_ ?_
      rotate_left
      · show Act.put _ (some 96) _ = _
        simp only [Act.put, List.setIfInBounds_toArray, List.set_cons_zero, List.set_cons_succ, i64_w, i32_w]
        rfl
      refine one_ (i := 49) (N := some 92) #[true, true, true, true, true, true, true, true, true, true, true, true, true, true, true, true, true, true, true, true, true, true, true, true, true, true, true, true, true, true, true, true, true, true, true, true, true, true, true, true, true, true, true, true, true, true, true, true, true, true, false, true, true, true, false, false, false] rfl rfl (by kernel_rfl) (by decide) (fun K hK => ?_)
      refine value_ (w1 := ?_) (v := ?_) (by rfl) rfl ?_ ?_
      rotate_left 2
      · go_simp
        constructor
        · rfl
        · rfl
      refine hK.out _ _ ⟨(blk_cell ((HD44.out.step (below_alloc (Below.refl _ _) _)).step (below_alloc (Below.refl _ _) _)).a 0).trans rfl, (blk_cell ((HD44.out.step (below_alloc (Below.refl _ _) _)).step (below_alloc (Below.refl _ _) _)).a 1).trans rfl, (blk_cell ((HD44.out.step (below_alloc (Below.refl _ _) _)).step (below_alloc (Below.refl _ _) _)).a 2).trans rfl, (blk_cell ((HD44.out.step (below_alloc (Below.refl _ _) _)).step (below_alloc (Below.refl _ _) _)).a 3).trans rfl, (blk_cell ((HD44.out.step (below_alloc (Below.refl _ _) _)).step (below_alloc (Below.refl _ _) _)).a 4).trans rfl, (blk_cell ((HD44.out.step (below_alloc (Below.refl _ _) _)).step (below_alloc (Below.refl _ _) _)).a 5).trans rfl, (blk_cell ((HD44.out.step (below_alloc (Below.refl _ _) _)).step (below_alloc (Below.refl _ _) _)).a 6).trans rfl, (blk_cell ((HD44.out.step (below_alloc (Below.refl _ _) _)).step (below_alloc (Below.refl _ _) _)).b 0).trans rfl, (blk_cell ((HD44.out.step (below_alloc (Below.refl _ _) _)).step (below_alloc (Below.refl _ _) _)).b 1).trans rfl, (blk_cell ((HD44.out.step (below_alloc (Below.refl _ _) _)).step (below_alloc (Below.refl _ _) _)).b 2).trans rfl, (blk_cell ((HD44.out.step (below_alloc (Below.refl _ _) _)).step (below_alloc (Below.refl _ _) _)).b 3).trans rfl, (blk_cell ((HD44.out.step (below_alloc (Below.refl _ _) _)).step (below_alloc (Below.refl _ _) _)).b 4).trans rfl, (blk_cell ((HD44.out.step (below_alloc (Below.refl _ _) _)).step (below_alloc (Below.refl _ _) _)).b 5).trans rfl, (blk_cell ((HD44.out.step (below_alloc (Below.refl _ _) _)).step (below_alloc (Below.refl _ _) _)).b 6).trans rfl⟩ (fun hHeld => ?_)
      clear hK K
      refine norm_ (a' := ?_) ?_ ?_
      rotate_left
      · show Act.put _ (some 92) _ = _
        simp only [Act.put, List.setIfInBounds_toArray, List.set_cons_zero, List.set_cons_succ, i64_w, i32_w]
        rfl
      refine one_ (i := 50) (N := some 93) #[true, true, true, true, true, true, true, true, true, true, true, true, true, true, true, true, true, true, true, true, true, true, true, true, true, true, true, true, true, true, true, true, true, true, true, true, true, true, true, true, true, true, true, true, true, true, true, true, true, true, true, true, true, true, false, false, false] rfl rfl (by kernel_rfl) (by decide) (fun K hK => ?_)
      refine goes_ Tryz.func24 (by kernel_rfl) rfl #[.slice (some ⟨(w44.heap.size + 1), 0, none⟩) 2 2] (by rfl) rfl rfl (by first | (simp only [List.map_toArray, List.map_cons, List.map_nil]; done) | (simp only [List.map_toArray, List.map_cons, List.map_nil]; rfl)) ?_
      with_reducible refine (sort_calls w w.heap.size (w.heap.size + 1) (w.heap.size + 1 + 1) _ (((HD44.out.step (below_alloc (Below.refl _ _) _)).step (below_alloc (Below.refl _ _) _))) (w44.heap.size + 1) (row_cells (l := cellsB ++ cellsA w.heap.size) (blk_next w44 _ (.cells #[.int .i64 4, .int .i64 (-1), .int .i64 (-1), .string ⟨#[120, 95, 49]⟩, .bool true, .slice none 0 0, .int .i64 0, .int .i64 2, .int .i64 3000, .int .i64 4100, .string ⟨#[]⟩, .bool false, .slice (some ⟨w.heap.size, 0, none⟩) 2 2, .int .i64 1] 32)))).mono ?_
      rintro e w50 ⟨g9, cp9, rfl, hcp9, hsq9, hb50⟩
      refine ⟨_, rfl, ?_⟩
      refine hK.out _ _ ⟨(blk_cell (((HD44.out.step (below_alloc (Below.refl _ _) _)).step (below_alloc (Below.refl _ _) _)).step hb50).a 0).trans rfl, (blk_cell (((HD44.out.step (below_alloc (Below.refl _ _) _)).step (below_alloc (Below.refl _ _) _)).step hb50).a 1).trans rfl, (blk_cell (((HD44.out.step (below_alloc (Below.refl _ _) _)).step (below_alloc (Below.refl _ _) _)).step hb50).a 2).trans rfl, (blk_cell (((HD44.out.step (below_alloc (Below.refl _ _) _)).step (below_alloc (Below.refl _ _) _)).step hb50).a 3).trans rfl, (blk_cell (((HD44.out.step (below_alloc (Below.refl _ _) _)).step (below_alloc (Below.refl _ _) _)).step hb50).a 4).trans rfl, (blk_cell (((HD44.out.step (below_alloc (Below.refl _ _) _)).step (below_alloc (Below.refl _ _) _)).step hb50).a 5).trans rfl, (blk_cell (((HD44.out.step (below_alloc (Below.refl _ _) _)).step (below_alloc (Below.refl _ _) _)).step hb50).a 6).trans rfl, (blk_cell (((HD44.out.step (below_alloc (Below.refl _ _) _)).step (below_alloc (Below.refl _ _) _)).step hb50).b 0).trans rfl, (blk_cell (((HD44.out.step (below_alloc (Below.refl _ _) _)).step (below_alloc (Below.refl _ _) _)).step hb50).b 1).trans rfl, (blk_cell (((HD44.out.step (below_alloc (Below.refl _ _) _)).step (below_alloc (Below.refl _ _) _)).step hb50).b 2).trans rfl, (blk_cell (((HD44.out.step (below_alloc (Below.refl _ _) _)).step (below_alloc (Below.refl _ _) _)).step hb50).b 3).trans rfl, (blk_cell (((HD44.out.step (below_alloc (Below.refl _ _) _)).step (below_alloc (Below.refl _ _) _)).step hb50).b 4).trans rfl, (blk_cell (((HD44.out.step (below_alloc (Below.refl _ _) _)).step (below_alloc (Below.refl _ _) _)).step hb50).b 5).trans rfl, (blk_cell (((HD44.out.step (below_alloc (Below.refl _ _) _)).step (below_alloc (Below.refl _ _) _)).step hb50).b 6).trans rfl⟩ (fun hHeld => ?_)
      clear hK K
      refine norm_ (a' := ?_) ?_ ?_
      rotate_left
      · show Act.put _ (some 93) _ = _
        simp only [Act.put, List.setIfInBounds_toArray, List.set_cons_zero, List.set_cons_succ, i64_w, i32_w]
        rfl
      exact norm_ (by first | (simp only [putAll, Act.put, List.setIfInBounds_toArray, List.set_cons_zero, List.set_cons_succ]; done) | (simp only [putAll, Act.put, List.setIfInBounds_toArray, List.set_cons_zero, List.set_cons_succ] <;> rfl)) (hCont (w44.heap.size + 1, g9, cp9, w44.heap.size) _ ⟨((HD44.out.step (below_alloc (Below.refl _ _) _)).step (below_alloc (Below.refl _ _) _)).step hb50, hsq9, (hb50.block _ (blk_lt (blk_old (blk_alloc w44 (.cells #[.int .i64 2, .int .i64 3000, .int .i64 4100, .string ⟨#[]⟩, .bool false, .slice (some ⟨w.heap.size, 0, none⟩) 2 2, .int .i64 1, .int .i64 4, .int .i64 (-1), .int .i64 (-1), .string ⟨#[120, 95, 49]⟩, .bool true, .slice none 0 0, .int .i64 0] 32)) _))).trans (blk_old (blk_alloc w44 (.cells #[.int .i64 2, .int .i64 3000, .int .i64 4100, .string ⟨#[]⟩, .bool false, .slice (some ⟨w.heap.size, 0, none⟩) 2 2, .int .i64 1, .int .i64 4, .int .i64 (-1), .int .i64 (-1), .string ⟨#[120, 95, 49]⟩, .bool true, .slice none 0 0, .int .i64 0] 32)) _), hcp9⟩)
  rintro s9 w9 hJF
  have HJF := Lib.hid hJF
  obtain ⟨hA9, _, _, _⟩ := hJF
  have hHeld : w9.cell? ⟨w.heap.size + 1, 0, none⟩ = some (.int .i64 2) ∧ w9.cell? ⟨w.heap.size + 1, 1, none⟩ = some (.int .i64 3000) ∧ w9.cell? ⟨w.heap.size + 1, 2, none⟩ = some (.int .i64 4100) ∧ w9.cell? ⟨w.heap.size + 1, 3, none⟩ = some (.string ⟨#[]⟩) ∧ w9.cell? ⟨w.heap.size + 1, 4, none⟩ = some (.bool false) ∧ w9.cell? ⟨w.heap.size + 1, 5, none⟩ = some (.slice (some ⟨w.heap.size, 0, none⟩) 2 2) ∧ w9.cell? ⟨w.heap.size + 1, 6, none⟩ = some (.int .i64 1) ∧ w9.cell? ⟨w.heap.size + 1 + 1, 0, none⟩ = some (.int .i64 4) ∧ w9.cell? ⟨w.heap.size + 1 + 1, 1, none⟩ = some (.int .i64 (-1)) ∧ w9.cell? ⟨w.heap.size + 1 + 1, 2, none⟩ = some (.int .i64 (-1)) ∧ w9.cell? ⟨w.heap.size + 1 + 1, 3, none⟩ = some (.string ⟨#[120, 95, 49]⟩) ∧ w9.cell? ⟨w.heap.size + 1 + 1, 4, none⟩ = some (.bool true) ∧ w9.cell? ⟨w.heap.size + 1 + 1, 5, none⟩ = some (.slice none 0 0) ∧ w9.cell? ⟨w.heap.size + 1 + 1, 6, none⟩ = some (.int .i64 0) := ⟨(blk_cell hA9.a 0).trans rfl, (blk_cell hA9.a 1).trans rfl, (blk_cell hA9.a 2).trans rfl, (blk_cell hA9.a 3).trans rfl, (blk_cell hA9.a 4).trans rfl, (blk_cell hA9.a 5).trans rfl, (blk_cell hA9.a 6).trans rfl, (blk_cell hA9.b 0).trans rfl, (blk_cell hA9.b 1).trans rfl, (blk_cell hA9.b 2).trans rfl, (blk_cell hA9.b 3).trans rfl, (blk_cell hA9.b 4).trans rfl, (blk_cell hA9.b 5).trans rfl, (blk_cell hA9.b 6).trans rfl⟩
  clear hA9
  refine norm_ (a' := ?_) ?_ ?_
  rotate_left
  · simp only [putAll, Act.put, List.setIfInBounds_toArray, List.set_cons_zero, List.set_cons_succ]
    rfl
  refine one_ (i := 54) (N := some 97) #[true, true, true, true, true, true, true, true, true, true, true, true, true, true, true, true, true, true, true, true, true, true, true, true, true, true, true, true, true, true, true, true, true, true, true, true, true, true, true, true, true, true, true, true, true, true, true, true, true, true, true, true, true, true, true, false, false] rfl rfl (by kernel_rfl) (by decide) (fun K hK => ?_)
  refine goes_ Tryz.func23 (by kernel_rfl) rfl #[.slice (some ⟨s9.2.1, 0, none⟩) 2 s9.2.2.1, .slice (some ⟨s9.2.2.2, 0, none⟩) 2 2] (by rfl) rfl rfl (by simp only [List.map_toArray, List.map_cons, List.map_nil]; rfl) ?_
  with_reducible refine (HSN.out _ _ _ _ HJF.out.a HJF.out.q HJF.out.r HJF.out.c).mono ?_
  rintro e w54 ⟨rfl, hb54⟩
  refine ⟨_, rfl, ?_⟩
  have HD54 := Lib.hid (HJF.out.a.step hb54)
  clear hb54
  refine hK.out _ _ ⟨(blk_cell HD54.out.a 0).trans rfl, (blk_cell HD54.out.a 1).trans rfl, (blk_cell HD54.out.a 2).trans rfl, (blk_cell HD54.out.a 3).trans rfl, (blk_cell HD54.out.a 4).trans rfl, (blk_cell HD54.out.a 5).trans rfl, (blk_cell HD54.out.a 6).trans rfl, (blk_cell HD54.out.b 0).trans rfl, (blk_cell HD54.out.b 1).trans rfl, (blk_cell HD54.out.b 2).trans rfl, (blk_cell HD54.out.b 3).trans rfl, (blk_cell HD54.out.b 4).trans rfl, (blk_cell HD54.out.b 5).trans rfl, (blk_cell HD54.out.b 6).trans rfl⟩ (fun hHeld => ?_)
  clear hK K
  refine norm_ (a' := ?_) ?_ ?_
  rotate_left
  · show Act.put _ (some 97) _ = _
    simp only [Act.put, List.setIfInBounds_toArray, List.set_cons_zero, List.set_cons_succ, i64_w, i32_w]
    rfl
  refine pure_ (i := 55) (N := some 98) (v := ?_) (a' := ?_) #[true, true, true, true, true, true, true, true, true, true, true, true, true, true, true, true, true, true, true, true, true, true, true, true, true, true, true, true, true, true, true, true, true, true, true, true, true, true, true, true, true, true, true, true, true, true, true, true, true, true, true, true, true, true, true, true, false] rfl rfl (by kernel_rfl) (fun _ _ _ h => h) (Or.inl ⟨by rfl, ?_⟩) ?_ ?_
  rotate_left
  · intro w'
    go_simp
    with_reducible rfl
  rotate_left
  · simp only [Act.put, List.setIfInBounds_toArray, List.set_cons_zero, List.set_cons_succ, i64_w, i32_w]
    rfl
  refine pure_ (i := 56) (N := some 0) (v := ?_) (a' := ?_) #[true, true, true, true, true, true, true, true, true, true, true, true, true, true, true, true, true, true, true, true, true, true, true, true, true, true, true, true, true, true, true, true, true, true, true, true, true, true, true, true, true, true, true, true, true, true, true, true, true, true, true, true, true, true, true, true, true] rfl rfl (by kernel_rfl) (fun _ _ _ h => h) (Or.inl ⟨by rfl, ?_⟩) ?_ ?_
  rotate_left
  · intro w'
    go_simp
    with_reducible rfl
  rotate_left
  · simp only [Act.put, List.setIfInBounds_toArray, List.set_cons_zero, List.set_cons_succ, i64_w, i32_w]
    rfl
  refine done_ (by kernel_rfl) ?_
  go_wp2
  go_ret
  exact ⟨rfl, HD54.out.bel⟩
def caesuralaw27_alive.f : Option Bool := some true
theorem caesuralaw27_alive.calls (r : Bool) (w : World) (hG : GOK w) (h : caesuralaw27_alive.f = some r) : Calls Tryz.prog 9 #[] w fun e w' => e = .returned (.bool r) ∧ Below w.heap.size w w' := by
  cases h
  exact alive_calls w hG
end Go.Proofs.YtlenlhnpmblicaaGreatDoor.XA
end
