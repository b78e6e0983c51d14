/- The card of NoteWrites holds: any list's report, each line of it, and what it says, is the document's, or it is refused, for its reason. -/
import Derived.Test.YtlenlhnpmblicaaGreatDoorZW1
import Derived.Test.YtlenlhnpmblicaaGreatDoorZW5
import Derived.Test.YtlenlhnpmblicaaGreatDoorZW4
import Derived.Test.YtlenlhnpmblicaaGreatDoorZW2
import Derived.Test.YtlenlhnpmblicaaGreatDoorZW6
import Derived.Test.YtlenlhnpmblicaaGreatDoorZW3
section
set_option linter.unusedVariables false
set_option linter.unusedSimpArgs false
namespace Go.Proofs.YtlenlhnpmblicaaGreatDoor.XA
open Go.RowKit Go.Proofs.YtlenlhnpmblicaaGreatDoorW.PrintWords Go.Proofs.YtlenlhnpmblicaaGreatDoorW.PrintLast Go.Proofs.YtlenlhnpmblicaaGreatDoorW.PrintMore
attribute [local go_sem] max2_int min2_int max_two min_two max_three min_three max_four min_four   -- for this text's walks alone
set_option linter.unusedVariables false
set_option linter.unusedSimpArgs false
mutual
def caesuraref27_Text.l0 : Nat → List (S32) → Int → Option (ByteArray × Int)
 | 0, _, _ => none
 | k + 1, x0, x4 => if x4 < (x0.length : Int) then (if 0 ≤ x4 then ((caesuraref27_Right.f ((rd_T32 x0 x4).f0) ((rd_T32 x0 x4).f1) ((rd_T32 x0 x4).f2) ((rd_T32 x0 x4).f3) ((rd_T32 x0 x4).f4) ((rd_T32 x0 x4).f5.f0) ((rd_T32 x0 x4).f5.f1)).bind fun t288 => (if t288 = true then (caesuraref27_Text.l0 k x0 (wrap64 (x4 + 1))) else (some ((⟨#[]⟩ : ByteArray), 1)))) else (none)) else (if (x0.length : Int) > 1000 then (some ((⟨#[]⟩ : ByteArray), 9)) else (caesuraref27_Text.l1 k x0 (⟨#[]⟩ : ByteArray) 0))
def caesuraref27_Text.l1 : Nat → List (S32) → ByteArray → Int → Option (ByteArray × Int)
 | 0, _, _, _ => none
 | k + 1, x0, x5, x6 => if x6 < (x0.length : Int) then (if 0 ≤ x6 then ((caesuraref27_Line.f ((rd_T32 x0 x6).f0) ((rd_T32 x0 x6).f1) ((rd_T32 x0 x6).f2) ((rd_T32 x0 x6).f3) ((rd_T32 x0 x6).f4) ((rd_T32 x0 x6).f5.f0) ((rd_T32 x0 x6).f5.f1)).bind fun bt290 => (if x5.size + bt290.1.size ≤ 9223372036854775807 then (if (x5 ++ bt290.1).size + 1 ≤ 9223372036854775807 then (caesuraref27_Text.l1 k x0 ((x5 ++ bt290.1) ++ (⟨#[10]⟩ : ByteArray)) (wrap64 (x6 + 1))) else (none)) else (none))) else (none)) else (some (x5, 0))
end
def caesuraref27_Text.f (k : Nat) (l0 : List (S32)) : Option (ByteArray × Int) := caesuraref27_Text.l0 k l0 0
theorem caesuraref27_Text.mono_l : ∀ k, (∀ y0 y1, LeO (caesuraref27_Text.l0 k y0 y1) (caesuraref27_Text.l0 (k + 1) y0 y1)) ∧ (∀ y0 y1 y2, LeO (caesuraref27_Text.l1 k y0 y1 y2) (caesuraref27_Text.l1 (k + 1) y0 y1 y2))
 | 0 => ⟨fun _ _ r h => by simp [caesuraref27_Text.l0] at h, fun _ _ _ r h => by simp [caesuraref27_Text.l1] at h⟩
 | k + 1 => by
  obtain ⟨ih0, ih1⟩ := caesuraref27_Text.mono_l k
  refine ⟨?_, ?_⟩
  ·intro y0 y1
   unfold caesuraref27_Text.l0
   repeat' first
   | (with_reducible exact ih0 _ _)
   | (with_reducible exact ih1 _ _ _)
   | (with_reducible exact LeO.refl _)
   | (with_reducible exact LeO.none _)
   | (with_reducible refine LeO.ite ?_ ?_)
   | (with_reducible refine LeO.bind ?_ (fun _ => ?_))
   | exact ih0 _ _
   | exact ih1 _ _ _
   | exact LeO.none _
   | refine LeO.ite ?_ ?_
   | refine LeO.bind ?_ (fun _ => ?_)
  ·intro y0 y1 y2
   unfold caesuraref27_Text.l1
   repeat' first
   | (with_reducible exact ih0 _ _)
   | (with_reducible exact ih1 _ _ _)
   | (with_reducible exact LeO.refl _)
   | (with_reducible exact LeO.none _)
   | (with_reducible refine LeO.ite ?_ ?_)
   | (with_reducible refine LeO.bind ?_ (fun _ => ?_))
   | exact ih0 _ _
   | exact ih1 _ _ _
   | exact LeO.none _
   | refine LeO.ite ?_ ?_
   | refine LeO.bind ?_ (fun _ => ?_)
theorem caesuraref27_Text.mono : ∀ a0 k, LeO (caesuraref27_Text.f k a0) (caesuraref27_Text.f (k + 1) a0) := by
 intro a0 k
 obtain ⟨ih0, ih1⟩ := caesuraref27_Text.mono_l k
 unfold caesuraref27_Text.f
 repeat' first
   | (with_reducible exact ih0 _ _)
   | (with_reducible exact ih1 _ _ _)
   | (with_reducible exact LeO.refl _)
   | (with_reducible exact LeO.none _)
   | (with_reducible refine LeO.ite ?_ ?_)
   | (with_reducible refine LeO.bind ?_ (fun _ => ?_))
   | exact ih0 _ _
   | exact ih1 _ _ _
   | exact LeO.none _
   | refine LeO.ite ?_ ?_
   | refine LeO.bind ?_ (fun _ => ?_)
set_option maxHeartbeats 8000000 in
set_option maxRecDepth 100000 in
theorem caesuraref27_Text.calls (k : Nat) (A0 : Option Addr) (c0 : Nat) (l0 : List (S32)) (r1 : ByteArray) (r2 : Int) (w : World) (hr0 : Kd.C k32 w A0 l0.length l0) (hc0 : l0.length ≤ c0) (h : caesuraref27_Text.f k l0 = some (r1, r2)) :
  Calls Tryz.prog 18 #[.slice A0 l0.length c0] w fun e w' => e = .returned (.tuple #[.string r1, .int .i64 r2]) ∧ Below w.heap.size w w' := by
 have hu32 := Tryz.underlying32
 have HR0 := Aside0.mk hr0
 have HC0 := Aside0.mk hc0
 clear hr0 hc0
 have HB := Aside0.mk (Below.refl w.heap.size w)
 have H : (caesuraref27_Text.l0 k l0 0) = some (r1, r2) := h
 clear h
 have H' := Aside0.mk H
 clear H
 go_enter Tryz.func18, Tryz.ntmps18
 go_wp2
 go_loopg [4] k (fun kq v4 w' => ∃ (x4_1 : Int), v4 = .int .i64 x4_1 ∧ Aside0 (caesuraref27_Text.l0 kq l0 x4_1 = some (r1, r2)) ∧ Aside0 (kq ≤ k) ∧ Aside0 (Below w.heap.size w w'))
 case atStart => exact ⟨(0), (by first | rfl | (simp; done) | (simp [*]; done)), H', ⟨Nat.le_refl _⟩, ⟨by repeat (first | (with_reducible first | exact HB.out | apply below_alloc | apply pw_below_drewN | apply below_drew1) | exact HB.out)⟩⟩
 case round =>
  clear H'
  try clear c1
  obtain ⟨x4_1, rfl, HA, HK1, HB⟩ := hrel
  cases gk with
  | zero => exact absurd HA.out (by simp [caesuraref27_Text.l0])
  | succ k1 =>
   have H := HA.out
   clear HA
   simp only [caesuraref27_Text.l0] at H
   by_cases c2 : x4_1 < (l0.length : Int)
   ·rw [if_pos c2] at H
    have c2b0 : decide (x4_1 < (l0.length : Int)) = true := decide_eq_true c2
    clear c2
    by_cases c3 : 0 ≤ x4_1
    ·rw [if_pos c3] at H
     have c3b0 : decide (0 ≤ x4_1) = true := decide_eq_true c3
     clear c3
     replace H := Option.bind_eq_some_iff.mp H
     obtain ⟨t288, A40, H⟩ := H
     replace H : (if t288 = true then (caesuraref27_Text.l0 k1 l0 (wrap64 (x4_1 + 1))) else (some ((⟨#[]⟩ : ByteArray), 1))) = some (r1, r2) := H
     have A4 := Aside0.mk A40
     clear A40
     by_cases c5 : t288 = true
     ·subst c5
      have H1 : (caesuraref27_Text.l0 k1 l0 (wrap64 (x4_1 + 1))) = some (r1, r2) := by rw [if_pos rfl] at H; exact H
      clear H
      have H := H1
      clear H1
      have H' := Aside0.mk H
      clear H
      have p287 : 0 ≤ (x4_1 : Int) := of_decide_eq_true (by first | (with_reducible assumption) | assumption)
      have q287 : x4_1 < (l0.length : Int) := of_decide_eq_true (by first | (with_reducible assumption) | assumption)
      obtain ⟨ad287, A287_5, c287_5, e287, hx287_0, hx287_1, hx287_2, hx287_3, hx287_4, hx287_5, hx287_6, hl287_5, hi287_5⟩ := at_T32 HR0.out x4_1 p287 q287
      cases e287
      replace hx287_0 := (HB.out.cell (World.block_lt_of_cell? w _ hx287_0)).trans hx287_0
      replace hx287_1 := (HB.out.cell (World.block_lt_of_cell? w _ hx287_1)).trans hx287_1
      replace hx287_2 := (HB.out.cell (World.block_lt_of_cell? w _ hx287_2)).trans hx287_2
      replace hx287_3 := (HB.out.cell (World.block_lt_of_cell? w _ hx287_3)).trans hx287_3
      replace hx287_4 := (HB.out.cell (World.block_lt_of_cell? w _ hx287_4)).trans hx287_4
      replace hx287_5 := (HB.out.cell (World.block_lt_of_cell? w _ hx287_5)).trans hx287_5
      replace hx287_6 := (HB.out.cell (World.block_lt_of_cell? w _ hx287_6)).trans hx287_6
      have HR287_5 := Aside0.mk hi287_5
      have HC287_5 := Aside0.mk hl287_5
      clear hi287_5 hl287_5
      replace p287 := eq_true p287
      replace q287 := eq_true q287
      go_wp2_with (first | ((with_reducible refine gate_callee (f := 16) rfl ?_); refine goesL_ (some 19) rfl rfl Tryz.func16 (by kernel_rfl) rfl #[.agg #[.int .i64 ((rd_T32 l0 x4_1).f0), .int .i64 ((rd_T32 l0 x4_1).f1), .int .i64 ((rd_T32 l0 x4_1).f2), .string ((rd_T32 l0 x4_1).f3), .bool ((rd_T32 l0 x4_1).f4), .slice A287_5 ((rd_T32 l0 x4_1).f5.f0).length c287_5, .int .i64 ((rd_T32 l0 x4_1).f5.f1)]] rfl (by (try simp only [List.map_toArray, List.map_cons, List.map_nil]); first | done | rfl | (simp only [List.length_drop, List.length_take]; rfl)) ?_; (with_reducible refine (caesuraref27_Right.calls ((rd_T32 l0 x4_1).f0) ((rd_T32 l0 x4_1).f1) ((rd_T32 l0 x4_1).f2) ((rd_T32 l0 x4_1).f3) ((rd_T32 l0 x4_1).f4) _ _ ((rd_T32 l0 x4_1).f5.f0) ((rd_T32 l0 x4_1).f5.f1) true _ ?side1 ?side2 A4.out).mono ?_); (case side1 => repeat (first | exact (Kd.C_below HR287_5.out HB.out) | (with_reducible refine Kd.C_alloc ?_ _) | (with_reducible refine Kd.C_drewN ?_ _) | (with_reducible refine Kd.C_drew ?_))); (case side2 => exact HC287_5.out); rintro e w6 ⟨rfl, hb⟩; refine ⟨_, rfl, ?_⟩; have n0_ := Aside0.mk (below_step (by repeat (first | (with_reducible first | exact HB.out | apply below_alloc | apply pw_below_drewN | apply below_drew1) | exact HB.out)) hb); clear HB; have HB := n0_; clear n0_; (try clear hb); (try clear hb2); (try clear hk); (try clear hi)))
      go_roundg k1
      case measure => have := HK1.out; omega
      case rel => exact ⟨(wrap64 (x4_1 + 1)), (by first | rfl | (simp; done) | (simp [*]; done)), H', ⟨by have := HK1.out; omega⟩, ⟨by repeat (first | (with_reducible first | exact HB.out | apply below_alloc | apply pw_below_drewN | apply below_drew1) | exact HB.out)⟩⟩
     ·replace c5 := Bool.eq_false_iff.mpr c5
      subst c5
      have H1 : (some ((⟨#[]⟩ : ByteArray), 1)) = some (r1, r2) := by rw [if_neg (show ¬ (false = true) by decide)] at H; exact H
      clear H
      have H := H1
      clear H1
      simp only [Option.some.injEq, Prod.mk.injEq] at H
      obtain ⟨rfl, rfl⟩ := H
      have p287 : 0 ≤ (x4_1 : Int) := of_decide_eq_true (by first | (with_reducible assumption) | assumption)
      have q287 : x4_1 < (l0.length : Int) := of_decide_eq_true (by first | (with_reducible assumption) | assumption)
      obtain ⟨ad287, A287_5, c287_5, e287, hx287_0, hx287_1, hx287_2, hx287_3, hx287_4, hx287_5, hx287_6, hl287_5, hi287_5⟩ := at_T32 HR0.out x4_1 p287 q287
      cases e287
      replace hx287_0 := (HB.out.cell (World.block_lt_of_cell? w _ hx287_0)).trans hx287_0
      replace hx287_1 := (HB.out.cell (World.block_lt_of_cell? w _ hx287_1)).trans hx287_1
      replace hx287_2 := (HB.out.cell (World.block_lt_of_cell? w _ hx287_2)).trans hx287_2
      replace hx287_3 := (HB.out.cell (World.block_lt_of_cell? w _ hx287_3)).trans hx287_3
      replace hx287_4 := (HB.out.cell (World.block_lt_of_cell? w _ hx287_4)).trans hx287_4
      replace hx287_5 := (HB.out.cell (World.block_lt_of_cell? w _ hx287_5)).trans hx287_5
      replace hx287_6 := (HB.out.cell (World.block_lt_of_cell? w _ hx287_6)).trans hx287_6
      have HR287_5 := Aside0.mk hi287_5
      have HC287_5 := Aside0.mk hl287_5
      clear hi287_5 hl287_5
      replace p287 := eq_true p287
      replace q287 := eq_true q287
      go_wp2_with (first | ((with_reducible refine gate_callee (f := 16) rfl ?_); refine goesL_ (some 19) rfl rfl Tryz.func16 (by kernel_rfl) rfl #[.agg #[.int .i64 ((rd_T32 l0 x4_1).f0), .int .i64 ((rd_T32 l0 x4_1).f1), .int .i64 ((rd_T32 l0 x4_1).f2), .string ((rd_T32 l0 x4_1).f3), .bool ((rd_T32 l0 x4_1).f4), .slice A287_5 ((rd_T32 l0 x4_1).f5.f0).length c287_5, .int .i64 ((rd_T32 l0 x4_1).f5.f1)]] rfl (by (try simp only [List.map_toArray, List.map_cons, List.map_nil]); first | done | rfl | (simp only [List.length_drop, List.length_take]; rfl)) ?_; (with_reducible refine (caesuraref27_Right.calls ((rd_T32 l0 x4_1).f0) ((rd_T32 l0 x4_1).f1) ((rd_T32 l0 x4_1).f2) ((rd_T32 l0 x4_1).f3) ((rd_T32 l0 x4_1).f4) _ _ ((rd_T32 l0 x4_1).f5.f0) ((rd_T32 l0 x4_1).f5.f1) false _ ?side1 ?side2 A4.out).mono ?_); (case side1 => repeat (first | exact (Kd.C_below HR287_5.out HB.out) | (with_reducible refine Kd.C_alloc ?_ _) | (with_reducible refine Kd.C_drewN ?_ _) | (with_reducible refine Kd.C_drew ?_))); (case side2 => exact HC287_5.out); rintro e w7 ⟨rfl, hb⟩; refine ⟨_, rfl, ?_⟩; have n0_ := Aside0.mk (below_step (by repeat (first | (with_reducible first | exact HB.out | apply below_alloc | apply pw_below_drewN | apply below_drew1) | exact HB.out)) hb); clear HB; have HB := n0_; clear n0_; (try clear hb); (try clear hb2); (try clear hk); (try clear hi)))
      go_ret2
      exact ⟨by first | rfl | (simp [errW_none, errW_some] <;> rfl) | (simp [*, errW_none, errW_some] <;> rfl), by repeat (first | (with_reducible first | exact HB.out | apply below_alloc | apply pw_below_drewN | apply below_drew1) | exact HB.out)⟩
    ·rw [if_neg c3] at H
     exact absurd H (by simp)
   ·rw [if_neg c2] at H
    have c2b0 : decide (x4_1 < (l0.length : Int)) = false := decide_eq_false c2
    clear c2
    by_cases c8 : (l0.length : Int) > 1000
    ·rw [if_pos c8] at H
     have c8b0 : decide (1000 < (l0.length : Int)) = true := decide_eq_true c8
     have c8b1 : decide (1000 < l0.length) = true := decide_eq_true (by omega)
     clear c8
     simp only [Option.some.injEq, Prod.mk.injEq] at H
     obtain ⟨rfl, rfl⟩ := H
     go_wp2
     go_ret2
     exact ⟨by first | rfl | (simp [errW_none, errW_some] <;> rfl) | (simp [*, errW_none, errW_some] <;> rfl), by repeat (first | (with_reducible first | exact HB.out | apply below_alloc | apply pw_below_drewN | apply below_drew1) | exact HB.out)⟩
    ·rw [if_neg c8] at H
     have c8b0 : decide (1000 < (l0.length : Int)) = false := decide_eq_false c8
     have c8b1 : decide (1000 < l0.length) = false := decide_eq_false (by omega)
     clear c8
     have H' := Aside0.mk H
     clear H
     go_wp2
     go_loopg [5, 6] k1 (fun kq v5 v6 w' => ∃ (x5_2 : ByteArray) (x6_2 : Int), v5 = .string x5_2 ∧ v6 = .int .i64 x6_2 ∧ Aside0 (caesuraref27_Text.l1 kq l0 x5_2 x6_2 = some (r1, r2)) ∧ Aside0 (kq ≤ k1) ∧ Aside0 (Below w.heap.size w w'))
     case atStart => exact ⟨((⟨#[]⟩ : ByteArray)), (0), (by first | rfl | (simp; done) | (simp [*]; done)), (by first | rfl | (simp; done) | (simp [*]; done)), H', ⟨Nat.le_refl _⟩, ⟨by repeat (first | (with_reducible first | exact HB.out | apply below_alloc | apply pw_below_drewN | apply below_drew1) | exact HB.out)⟩⟩
     case round =>
      clear H'
      try clear c1
      try clear c2
      try clear c2b0
      try clear p2
      try clear q2
      try clear hx2
      try clear c3
      try clear c3b0
      try clear c5
      try clear p6
      try clear c8
      try clear c8b0
      try clear c8b1
      try clear hx287_0
      try clear hx287_1
      try clear hx287_2
      try clear hx287_3
      try clear hx287_4
      try clear hx287_5
      try clear hx287_6
      try clear p287
      try clear q287
      obtain ⟨x5_2, x6_2, rfl, rfl, HA, HK2, HB⟩ := hrel
      cases gk with
      | zero => exact absurd HA.out (by simp [caesuraref27_Text.l1])
      | succ k2 =>
       have H := HA.out
       clear HA
       simp only [caesuraref27_Text.l1] at H
       by_cases c9 : x6_2 < (l0.length : Int)
       ·rw [if_pos c9] at H
        have c9b0 : decide (x6_2 < (l0.length : Int)) = true := decide_eq_true c9
        clear c9
        by_cases c10 : 0 ≤ x6_2
        ·rw [if_pos c10] at H
         have c10b0 : decide (0 ≤ x6_2) = true := decide_eq_true c10
         clear c10
         replace H := Option.bind_eq_some_iff.mp H
         obtain ⟨⟨t290, t291⟩, A110, H⟩ := H
         replace H : (if x5_2.size + t290.size ≤ 9223372036854775807 then (if (x5_2 ++ t290).size + 1 ≤ 9223372036854775807 then (caesuraref27_Text.l1 k2 l0 ((x5_2 ++ t290) ++ (⟨#[10]⟩ : ByteArray)) (wrap64 (x6_2 + 1))) else (none)) else (none)) = some (r1, r2) := H
         have A11 := Aside0.mk A110
         clear A110
         by_cases c12 : x5_2.size + t290.size ≤ 9223372036854775807
         ·rw [if_pos c12] at H
          have c12b0 := eq_true c12
          have c12b1 : decide (x5_2.size + t290.size ≤ 9223372036854775807) = true := decide_eq_true c12
          try have c12b2 : (9223372036854775807 < x5_2.size + t290.size) = False := eq_false (Nat.not_lt.2 c12)
          by_cases c13 : (x5_2 ++ t290).size + 1 ≤ 9223372036854775807
          ·rw [if_pos c13] at H
           have c13b0 := eq_true c13
           have c13b1 : decide ((x5_2 ++ t290).size + 1 ≤ 9223372036854775807) = true := decide_eq_true c13
           have c13b5 := Nat.not_lt.2 c13; rw [ByteArray.size_append] at c13b5; try have c13b2 : (9223372036854775807 < (x5_2 ++ t290).size + 1) = False := eq_false (Nat.not_lt.2 c13)
           have H' := Aside0.mk H
           clear H
           have p289 : 0 ≤ (x6_2 : Int) := of_decide_eq_true (by first | (with_reducible assumption) | assumption)
           have q289 : x6_2 < (l0.length : Int) := of_decide_eq_true (by first | (with_reducible assumption) | assumption)
           obtain ⟨ad289, A289_5, c289_5, e289, hx289_0, hx289_1, hx289_2, hx289_3, hx289_4, hx289_5, hx289_6, hl289_5, hi289_5⟩ := at_T32 HR0.out x6_2 p289 q289
           cases e289
           replace hx289_0 := (HB.out.cell (World.block_lt_of_cell? w _ hx289_0)).trans hx289_0
           replace hx289_1 := (HB.out.cell (World.block_lt_of_cell? w _ hx289_1)).trans hx289_1
           replace hx289_2 := (HB.out.cell (World.block_lt_of_cell? w _ hx289_2)).trans hx289_2
           replace hx289_3 := (HB.out.cell (World.block_lt_of_cell? w _ hx289_3)).trans hx289_3
           replace hx289_4 := (HB.out.cell (World.block_lt_of_cell? w _ hx289_4)).trans hx289_4
           replace hx289_5 := (HB.out.cell (World.block_lt_of_cell? w _ hx289_5)).trans hx289_5
           replace hx289_6 := (HB.out.cell (World.block_lt_of_cell? w _ hx289_6)).trans hx289_6
           have HR289_5 := Aside0.mk hi289_5
           have HC289_5 := Aside0.mk hl289_5
           clear hi289_5 hl289_5
           replace p289 := eq_true p289
           replace q289 := eq_true q289
           go_wp2_with (first | ((with_reducible refine gate_callee (f := 12) rfl ?_); refine goesL_ (some 35) rfl rfl Tryz.func12 (by kernel_rfl) rfl #[.agg #[.int .i64 ((rd_T32 l0 x6_2).f0), .int .i64 ((rd_T32 l0 x6_2).f1), .int .i64 ((rd_T32 l0 x6_2).f2), .string ((rd_T32 l0 x6_2).f3), .bool ((rd_T32 l0 x6_2).f4), .slice A289_5 ((rd_T32 l0 x6_2).f5.f0).length c289_5, .int .i64 ((rd_T32 l0 x6_2).f5.f1)]] rfl (by (try simp only [List.map_toArray, List.map_cons, List.map_nil]); first | done | rfl | (simp only [List.length_drop, List.length_take]; rfl)) ?_; (with_reducible refine (caesuraref27_Line.calls ((rd_T32 l0 x6_2).f0) ((rd_T32 l0 x6_2).f1) ((rd_T32 l0 x6_2).f2) ((rd_T32 l0 x6_2).f3) ((rd_T32 l0 x6_2).f4) _ _ ((rd_T32 l0 x6_2).f5.f0) ((rd_T32 l0 x6_2).f5.f1) t290 t291 _ ?side1 ?side2 A11.out).mono ?_); (case side1 => repeat (first | exact (Kd.C_below HR289_5.out HB.out) | (with_reducible refine Kd.C_alloc ?_ _) | (with_reducible refine Kd.C_drewN ?_ _) | (with_reducible refine Kd.C_drew ?_))); (case side2 => exact HC289_5.out); rintro e w14 ⟨rfl, hb⟩; refine ⟨_, rfl, ?_⟩; have n0_ := Aside0.mk (below_step (by repeat (first | (with_reducible first | exact HB.out | apply below_alloc | apply pw_below_drewN | apply below_drew1) | exact HB.out)) hb); clear HB; have HB := n0_; clear n0_; (try clear hb); (try clear hb2); (try clear hk); (try clear hi)))
           go_roundg k2
           case measure => have := HK1.out; have := HK2.out; omega
           case rel => exact ⟨((x5_2 ++ t290) ++ (⟨#[10]⟩ : ByteArray)), (wrap64 (x6_2 + 1)), (by first | rfl | (simp; done) | (simp [*]; done)), (by first | rfl | (simp; done) | (simp [*]; done)), H', ⟨by have := HK1.out; have := HK2.out; omega⟩, ⟨by repeat (first | (with_reducible first | exact HB.out | apply below_alloc | apply pw_below_drewN | apply below_drew1) | exact HB.out)⟩⟩
          ·rw [if_neg c13] at H
           exact absurd H (by simp)
         ·rw [if_neg c12] at H
          exact absurd H (by simp)
        ·rw [if_neg c10] at H
         exact absurd H (by simp)
       ·rw [if_neg c9] at H
        have c9b0 : decide (x6_2 < (l0.length : Int)) = false := decide_eq_false c9
        clear c9
        simp only [Option.some.injEq, Prod.mk.injEq] at H
        obtain ⟨rfl, rfl⟩ := H
        go_wp2
        go_ret2
        exact ⟨by first | rfl | (simp [errW_none, errW_some] <;> rfl) | (simp [*, errW_none, errW_some] <;> rfl), by repeat (first | (with_reducible first | exact HB.out | apply below_alloc | apply pw_below_drewN | apply below_drew1) | exact HB.out)⟩
def caesuralaw27_NoteWrites.l0 : Nat → List (S32) → Int → Int → Option (Bool)
 | 0, _, _, _ => none
 | k + 1, x0, x1, x5 => if x5 < (x0.length : Int) then (if 0 ≤ x5 then ((note_Line.f ((rd_T32 x0 x5).f0) ((rd_T32 x0 x5).f1) ((rd_T32 x0 x5).f2) ((rd_T32 x0 x5).f3) ((rd_T32 x0 x5).f4) ((rd_T32 x0 x5).f5.f0) ((rd_T32 x0 x5).f5.f1)).bind fun bt295 => ((caesuraref27_Line.f ((rd_T32 x0 x5).f0) ((rd_T32 x0 x5).f1) ((rd_T32 x0 x5).f2) ((rd_T32 x0 x5).f3) ((rd_T32 x0 x5).f4) ((rd_T32 x0 x5).f5.f0) ((rd_T32 x0 x5).f5.f1)).bind fun bt298 => ((note_Say.f k ((rd_T32 x0 x5).f0) ((rd_T32 x0 x5).f1) ((rd_T32 x0 x5).f2) ((rd_T32 x0 x5).f3) ((rd_T32 x0 x5).f4) ((rd_T32 x0 x5).f5.f0) ((rd_T32 x0 x5).f5.f1)).bind fun bt301 => ((caesuraref27_Say.f ((rd_T32 x0 x5).f0) ((rd_T32 x0 x5).f1) ((rd_T32 x0 x5).f2) ((rd_T32 x0 x5).f3) ((rd_T32 x0 x5).f4) ((rd_T32 x0 x5).f5.f0) ((rd_T32 x0 x5).f5.f1)).bind fun bt304 => (if bt295.1.toList = bt298.1.toList then (if bt295.2 = bt298.2 then (if bt301.1.toList = bt304.1.toList then (if bt301.2 = bt304.2 then ((note_Right.f ((rd_T32 x0 x5).f0) ((rd_T32 x0 x5).f1) ((rd_T32 x0 x5).f2) ((rd_T32 x0 x5).f3) ((rd_T32 x0 x5).f4) ((rd_T32 x0 x5).f5.f0) ((rd_T32 x0 x5).f5.f1)).bind fun t307 => ((caesuraref27_Right.f ((rd_T32 x0 x5).f0) ((rd_T32 x0 x5).f1) ((rd_T32 x0 x5).f2) ((rd_T32 x0 x5).f3) ((rd_T32 x0 x5).f4) ((rd_T32 x0 x5).f5.f0) ((rd_T32 x0 x5).f5.f1)).bind fun t309 => (if (t307 != t309) = true then (none) else (caesuralaw27_NoteWrites.l0 k x0 x1 (wrap64 (x5 + 1)))))) else (none)) else (none)) else (none)) else (none)))))) else (none)) else ((note_Text.f x0).bind fun bt310 => ((caesuraref27_Text.f k x0).bind fun bt312 => (if bt310.1.toList = bt312.1.toList then (if bt310.2 = bt312.2 then ((note_Word.f x1).bind fun t314 => ((caesuraref27_Word.f x1).bind fun t315 => (some (t314.toList == t315.toList)))) else (none)) else (none))))
def caesuralaw27_NoteWrites.f (k : Nat) (l0 : List (S32)) (a1 : Int) : Option (Bool) := (caesuralaw27_alive.f).bind fun t292 => (if t292 = true then ((caesuraref27_Great.f k l0 3000).bind fun t293 => (if t293 = true then (some true) else (caesuralaw27_NoteWrites.l0 k l0 a1 0))) else (none))
theorem caesuralaw27_NoteWrites.mono_l : ∀ k, (∀ y0 y1 y2, LeO (caesuralaw27_NoteWrites.l0 k y0 y1 y2) (caesuralaw27_NoteWrites.l0 (k + 1) y0 y1 y2))
 | 0 => fun _ _ _ r h => by simp [caesuralaw27_NoteWrites.l0] at h
 | k + 1 => by
  have ih0 := caesuralaw27_NoteWrites.mono_l k
  ·intro y0 y1 y2
   unfold caesuralaw27_NoteWrites.l0
   repeat' first
   | (with_reducible exact ih0 _ _ _)
   | (with_reducible exact caesuraref27_Great.mono _ _ _)
   | (with_reducible exact caesuraref27_Text.mono _ _)
   | (with_reducible exact note_Say.mono _ _ _ _ _ _ _ _)
   | (with_reducible exact LeO.refl _)
   | (with_reducible exact LeO.none _)
   | (with_reducible refine LeO.ite ?_ ?_)
   | (with_reducible refine LeO.bind ?_ (fun _ => ?_))
   | exact ih0 _ _ _
   | exact caesuraref27_Great.mono _ _ _
   | exact caesuraref27_Text.mono _ _
   | exact note_Say.mono _ _ _ _ _ _ _ _
   | exact LeO.none _
   | refine LeO.ite ?_ ?_
   | refine LeO.bind ?_ (fun _ => ?_)
theorem caesuralaw27_NoteWrites.mono : ∀ a0 a1 k, LeO (caesuralaw27_NoteWrites.f k a0 a1) (caesuralaw27_NoteWrites.f (k + 1) a0 a1) := by
 intro a0 a1 k
 have ih0 := caesuralaw27_NoteWrites.mono_l k
 unfold caesuralaw27_NoteWrites.f
 repeat' first
   | (with_reducible exact ih0 _ _ _)
   | (with_reducible exact caesuraref27_Great.mono _ _ _)
   | (with_reducible exact caesuraref27_Text.mono _ _)
   | (with_reducible exact note_Say.mono _ _ _ _ _ _ _ _)
   | (with_reducible exact LeO.refl _)
   | (with_reducible exact LeO.none _)
   | (with_reducible refine LeO.ite ?_ ?_)
   | (with_reducible refine LeO.bind ?_ (fun _ => ?_))
   | exact ih0 _ _ _
   | exact caesuraref27_Great.mono _ _ _
   | exact caesuraref27_Text.mono _ _
   | exact note_Say.mono _ _ _ _ _ _ _ _
   | exact LeO.none _
   | refine LeO.ite ?_ ?_
   | refine LeO.bind ?_ (fun _ => ?_)
set_option maxHeartbeats 8000000 in
set_option maxRecDepth 100000 in
theorem caesuralaw27_NoteWrites.calls (k : Nat) (A0 : Option Addr) (c0 : Nat) (l0 : List (S32)) (a1 : Int) (r : Bool) (w : World) (hG : GOK w) (hr0 : Kd.C k32 w A0 l0.length l0) (hc0 : l0.length ≤ c0) (h : caesuralaw27_NoteWrites.f k l0 a1 = some r) :
  Calls Tryz.prog 3 #[.slice A0 l0.length c0, .int .i64 a1] w fun e w' => e = .returned (.bool r) ∧ Below w.heap.size w w' := by
 have hu32 := Tryz.underlying32
 have HR0 := Aside0.mk hr0
 have HC0 := Aside0.mk hc0
 clear hr0 hc0
 have HB := Aside0.mk (Below.refl w.heap.size w)
 have H : ((caesuralaw27_alive.f).bind fun t292 => (if t292 = true then ((caesuraref27_Great.f k l0 3000).bind fun t293 => (if t293 = true then (some true) else (caesuralaw27_NoteWrites.l0 k l0 a1 0))) else (none))) = some r := h
 clear h
 replace H := Option.bind_eq_some_iff.mp H
 obtain ⟨t292, A30, H⟩ := H
 replace H : (if t292 = true then ((caesuraref27_Great.f k l0 3000).bind fun t293 => (if t293 = true then (some true) else (caesuralaw27_NoteWrites.l0 k l0 a1 0))) else (none)) = some r := H
 have A3 := Aside0.mk A30
 clear A30
 by_cases c4 : t292 = true
 ·subst c4
  have H1 : ((caesuraref27_Great.f k l0 3000).bind fun t293 => (if t293 = true then (some true) else (caesuralaw27_NoteWrites.l0 k l0 a1 0))) = some r := by rw [if_pos rfl] at H; exact H
  clear H
  have H := H1
  clear H1
  replace H := Option.bind_eq_some_iff.mp H
  obtain ⟨t293, A50, H⟩ := H
  replace H : (if t293 = true then (some true) else (caesuralaw27_NoteWrites.l0 k l0 a1 0)) = some r := H
  have A5 := Aside0.mk A50
  clear A50
  by_cases c6 : t293 = true
  ·subst c6
   have H1 : (some true) = some r := by rw [if_pos rfl] at H; exact H
   clear H
   have H := H1
   clear H1
   obtain rfl := Option.some.inj H
   go_enter Tryz.func3, Tryz.ntmps3
   go_wp2_with (first | ((with_reducible refine gate_callee (f := 9) rfl ?_); refine goesL_ (some 18) rfl rfl Tryz.func9 (by kernel_rfl) rfl #[] rfl (by (try simp only [List.map_toArray, List.map_cons, List.map_nil]); first | done | rfl | (simp only [List.length_drop, List.length_take]; rfl)) ?_; (with_reducible refine (caesuralaw27_alive.calls (hG := ?gok)  true _ A3.out).mono ?_); (case gok => exact GOK.step hG (by repeat (first | (with_reducible first | exact HB.out | exact Below.refl _ _ | apply below_alloc | apply pw_below_drewN | apply below_drew1) | exact HB.out))); rintro e w7 ⟨rfl, hb⟩; refine ⟨_, rfl, ?_⟩; have n0_ := Aside0.mk (below_step (by repeat (first | (with_reducible first | exact HB.out | apply below_alloc | apply pw_below_drewN | apply below_drew1) | exact HB.out)) hb); clear HB; have HB := n0_; clear n0_; (try clear hb); (try clear hb2); (try clear hk); (try clear hi)) | ((with_reducible refine gate_callee (f := 10) rfl ?_); refine goesL_ (some 21) rfl rfl Tryz.func10 (by kernel_rfl) rfl #[.slice A0 l0.length c0, .int .i64 3000] rfl (by (try simp only [List.map_toArray, List.map_cons, List.map_nil]); first | done | rfl | (simp only [List.length_drop, List.length_take]; rfl)) ?_; (with_reducible refine (caesuraref27_Great.calls k _ _ l0 3000 true _ ?side1 ?side2 A5.out).mono ?_); (case side1 => repeat (first | exact (Kd.C_below HR0.out HB.out) | (with_reducible refine Kd.C_alloc ?_ _) | (with_reducible refine Kd.C_drewN ?_ _) | (with_reducible refine Kd.C_drew ?_))); (case side2 => exact HC0.out); rintro e w' ⟨rfl, ⟨nd, rfl⟩⟩; refine ⟨_, rfl, ?_⟩))
   go_ret
   exact ⟨by first | rfl | (simp [errW_none, errW_some] <;> rfl) | (simp [*, errW_none, errW_some] <;> rfl), by repeat (first | (with_reducible first | exact HB.out | apply below_alloc | apply pw_below_drewN | apply below_drew1) | exact HB.out)⟩
  ·replace c6 := Bool.eq_false_iff.mpr c6
   subst c6
   have H1 : (caesuralaw27_NoteWrites.l0 k l0 a1 0) = some r := by rw [if_neg (show ¬ (false = true) by decide)] at H; exact H
   clear H
   have H := H1
   clear H1
   have H' := Aside0.mk H
   clear H
   go_enter Tryz.func3, Tryz.ntmps3
   go_wp2_with (first | ((with_reducible refine gate_callee (f := 9) rfl ?_); refine goesL_ (some 18) rfl rfl Tryz.func9 (by kernel_rfl) rfl #[] rfl (by (try simp only [List.map_toArray, List.map_cons, List.map_nil]); first | done | rfl | (simp only [List.length_drop, List.length_take]; rfl)) ?_; (with_reducible refine (caesuralaw27_alive.calls (hG := ?gok)  true _ A3.out).mono ?_); (case gok => exact GOK.step hG (by repeat (first | (with_reducible first | exact HB.out | exact Below.refl _ _ | apply below_alloc | apply pw_below_drewN | apply below_drew1) | exact HB.out))); rintro e w8 ⟨rfl, hb⟩; refine ⟨_, rfl, ?_⟩; have n0_ := Aside0.mk (below_step (by repeat (first | (with_reducible first | exact HB.out | apply below_alloc | apply pw_below_drewN | apply below_drew1) | exact HB.out)) hb); clear HB; have HB := n0_; clear n0_; (try clear hb); (try clear hb2); (try clear hk); (try clear hi)) | ((with_reducible refine gate_callee (f := 10) rfl ?_); refine goesL_ (some 21) rfl rfl Tryz.func10 (by kernel_rfl) rfl #[.slice A0 l0.length c0, .int .i64 3000] rfl (by (try simp only [List.map_toArray, List.map_cons, List.map_nil]); first | done | rfl | (simp only [List.length_drop, List.length_take]; rfl)) ?_; (with_reducible refine (caesuraref27_Great.calls k _ _ l0 3000 false _ ?side1 ?side2 A5.out).mono ?_); (case side1 => repeat (first | exact (Kd.C_below HR0.out HB.out) | (with_reducible refine Kd.C_alloc ?_ _) | (with_reducible refine Kd.C_drewN ?_ _) | (with_reducible refine Kd.C_drew ?_))); (case side2 => exact HC0.out); rintro e w' ⟨rfl, ⟨nd, rfl⟩⟩; refine ⟨_, rfl, ?_⟩))
   go_loopg [5] k (fun kq v5 w' => ∃ (x5_1 : Int), v5 = .int .i64 x5_1 ∧ Aside0 (caesuralaw27_NoteWrites.l0 kq l0 a1 x5_1 = some r) ∧ Aside0 (kq ≤ k) ∧ Aside0 (Below w.heap.size w w'))
   case atStart => exact ⟨(0), (by first | rfl | (simp; done) | (simp [*]; done)), H', ⟨Nat.le_refl _⟩, ⟨by repeat (first | (with_reducible first | exact HB.out | apply below_alloc | apply pw_below_drewN | apply below_drew1) | exact HB.out)⟩⟩
   case round =>
    clear H'
    try clear c1
    try clear p2
    try clear c3
    try clear c4
    try clear c6
    obtain ⟨x5_1, rfl, HA, HK1, HB⟩ := hrel
    cases gk with
    | zero => exact absurd HA.out (by simp [caesuralaw27_NoteWrites.l0])
    | succ k1 =>
     have H := HA.out
     clear HA
     simp only [caesuralaw27_NoteWrites.l0] at H
     by_cases c9 : x5_1 < (l0.length : Int)
     ·rw [if_pos c9] at H
      have c9b0 : decide (x5_1 < (l0.length : Int)) = true := decide_eq_true c9
      clear c9
      by_cases c10 : 0 ≤ x5_1
      ·rw [if_pos c10] at H
       have c10b0 : decide (0 ≤ x5_1) = true := decide_eq_true c10
       clear c10
       replace H := Option.bind_eq_some_iff.mp H
       obtain ⟨⟨t295, t296⟩, A110, H⟩ := H
       replace H : ((caesuraref27_Line.f ((rd_T32 l0 x5_1).f0) ((rd_T32 l0 x5_1).f1) ((rd_T32 l0 x5_1).f2) ((rd_T32 l0 x5_1).f3) ((rd_T32 l0 x5_1).f4) ((rd_T32 l0 x5_1).f5.f0) ((rd_T32 l0 x5_1).f5.f1)).bind fun bt298 => ((note_Say.f k1 ((rd_T32 l0 x5_1).f0) ((rd_T32 l0 x5_1).f1) ((rd_T32 l0 x5_1).f2) ((rd_T32 l0 x5_1).f3) ((rd_T32 l0 x5_1).f4) ((rd_T32 l0 x5_1).f5.f0) ((rd_T32 l0 x5_1).f5.f1)).bind fun bt301 => ((caesuraref27_Say.f ((rd_T32 l0 x5_1).f0) ((rd_T32 l0 x5_1).f1) ((rd_T32 l0 x5_1).f2) ((rd_T32 l0 x5_1).f3) ((rd_T32 l0 x5_1).f4) ((rd_T32 l0 x5_1).f5.f0) ((rd_T32 l0 x5_1).f5.f1)).bind fun bt304 => (if t295.toList = bt298.1.toList then (if t296 = bt298.2 then (if bt301.1.toList = bt304.1.toList then (if bt301.2 = bt304.2 then ((note_Right.f ((rd_T32 l0 x5_1).f0) ((rd_T32 l0 x5_1).f1) ((rd_T32 l0 x5_1).f2) ((rd_T32 l0 x5_1).f3) ((rd_T32 l0 x5_1).f4) ((rd_T32 l0 x5_1).f5.f0) ((rd_T32 l0 x5_1).f5.f1)).bind fun t307 => ((caesuraref27_Right.f ((rd_T32 l0 x5_1).f0) ((rd_T32 l0 x5_1).f1) ((rd_T32 l0 x5_1).f2) ((rd_T32 l0 x5_1).f3) ((rd_T32 l0 x5_1).f4) ((rd_T32 l0 x5_1).f5.f0) ((rd_T32 l0 x5_1).f5.f1)).bind fun t309 => (if (t307 != t309) = true then (none) else (caesuralaw27_NoteWrites.l0 k1 l0 a1 (wrap64 (x5_1 + 1)))))) else (none)) else (none)) else (none)) else (none))))) = some r := H
       have A11 := Aside0.mk A110
       clear A110
       replace H := Option.bind_eq_some_iff.mp H
       obtain ⟨⟨t298, t299⟩, A120, H⟩ := H
       replace H : ((note_Say.f k1 ((rd_T32 l0 x5_1).f0) ((rd_T32 l0 x5_1).f1) ((rd_T32 l0 x5_1).f2) ((rd_T32 l0 x5_1).f3) ((rd_T32 l0 x5_1).f4) ((rd_T32 l0 x5_1).f5.f0) ((rd_T32 l0 x5_1).f5.f1)).bind fun bt301 => ((caesuraref27_Say.f ((rd_T32 l0 x5_1).f0) ((rd_T32 l0 x5_1).f1) ((rd_T32 l0 x5_1).f2) ((rd_T32 l0 x5_1).f3) ((rd_T32 l0 x5_1).f4) ((rd_T32 l0 x5_1).f5.f0) ((rd_T32 l0 x5_1).f5.f1)).bind fun bt304 => (if t295.toList = t298.toList then (if t296 = t299 then (if bt301.1.toList = bt304.1.toList then (if bt301.2 = bt304.2 then ((note_Right.f ((rd_T32 l0 x5_1).f0) ((rd_T32 l0 x5_1).f1) ((rd_T32 l0 x5_1).f2) ((rd_T32 l0 x5_1).f3) ((rd_T32 l0 x5_1).f4) ((rd_T32 l0 x5_1).f5.f0) ((rd_T32 l0 x5_1).f5.f1)).bind fun t307 => ((caesuraref27_Right.f ((rd_T32 l0 x5_1).f0) ((rd_T32 l0 x5_1).f1) ((rd_T32 l0 x5_1).f2) ((rd_T32 l0 x5_1).f3) ((rd_T32 l0 x5_1).f4) ((rd_T32 l0 x5_1).f5.f0) ((rd_T32 l0 x5_1).f5.f1)).bind fun t309 => (if (t307 != t309) = true then (none) else (caesuralaw27_NoteWrites.l0 k1 l0 a1 (wrap64 (x5_1 + 1)))))) else (none)) else (none)) else (none)) else (none)))) = some r := H
       have A12 := Aside0.mk A120
       clear A120
       replace H := Option.bind_eq_some_iff.mp H
       obtain ⟨⟨t301, t302⟩, A130, H⟩ := H
       replace H : ((caesuraref27_Say.f ((rd_T32 l0 x5_1).f0) ((rd_T32 l0 x5_1).f1) ((rd_T32 l0 x5_1).f2) ((rd_T32 l0 x5_1).f3) ((rd_T32 l0 x5_1).f4) ((rd_T32 l0 x5_1).f5.f0) ((rd_T32 l0 x5_1).f5.f1)).bind fun bt304 => (if t295.toList = t298.toList then (if t296 = t299 then (if t301.toList = bt304.1.toList then (if t302 = bt304.2 then ((note_Right.f ((rd_T32 l0 x5_1).f0) ((rd_T32 l0 x5_1).f1) ((rd_T32 l0 x5_1).f2) ((rd_T32 l0 x5_1).f3) ((rd_T32 l0 x5_1).f4) ((rd_T32 l0 x5_1).f5.f0) ((rd_T32 l0 x5_1).f5.f1)).bind fun t307 => ((caesuraref27_Right.f ((rd_T32 l0 x5_1).f0) ((rd_T32 l0 x5_1).f1) ((rd_T32 l0 x5_1).f2) ((rd_T32 l0 x5_1).f3) ((rd_T32 l0 x5_1).f4) ((rd_T32 l0 x5_1).f5.f0) ((rd_T32 l0 x5_1).f5.f1)).bind fun t309 => (if (t307 != t309) = true then (none) else (caesuralaw27_NoteWrites.l0 k1 l0 a1 (wrap64 (x5_1 + 1)))))) else (none)) else (none)) else (none)) else (none))) = some r := H
       have A13 := Aside0.mk A130
       clear A130
       replace H := Option.bind_eq_some_iff.mp H
       obtain ⟨⟨t304, t305⟩, A140, H⟩ := H
       replace H : (if t295.toList = t298.toList then (if t296 = t299 then (if t301.toList = t304.toList then (if t302 = t305 then ((note_Right.f ((rd_T32 l0 x5_1).f0) ((rd_T32 l0 x5_1).f1) ((rd_T32 l0 x5_1).f2) ((rd_T32 l0 x5_1).f3) ((rd_T32 l0 x5_1).f4) ((rd_T32 l0 x5_1).f5.f0) ((rd_T32 l0 x5_1).f5.f1)).bind fun t307 => ((caesuraref27_Right.f ((rd_T32 l0 x5_1).f0) ((rd_T32 l0 x5_1).f1) ((rd_T32 l0 x5_1).f2) ((rd_T32 l0 x5_1).f3) ((rd_T32 l0 x5_1).f4) ((rd_T32 l0 x5_1).f5.f0) ((rd_T32 l0 x5_1).f5.f1)).bind fun t309 => (if (t307 != t309) = true then (none) else (caesuralaw27_NoteWrites.l0 k1 l0 a1 (wrap64 (x5_1 + 1)))))) else (none)) else (none)) else (none)) else (none)) = some r := H
       have A14 := Aside0.mk A140
       clear A140
       by_cases c15 : t295.toList = t298.toList
       ·rw [if_pos c15] at H
        have c15b0 : (t295.toList == t298.toList) = true := beq_iff_eq.mpr c15
        have c15b1 : (t295.toList != t298.toList) = false := bne_eq_false_iff_eq.mpr c15
        clear c15
        by_cases c16 : t296 = t299
        ·rw [if_pos c16] at H
         have c16b0 : (t296 == t299) = true := beq_iff_eq.mpr c16
         have c16b1 : (t296 != t299) = false := bne_eq_false_iff_eq.mpr c16
         clear c16
         by_cases c17 : t301.toList = t304.toList
         ·rw [if_pos c17] at H
          have c17b0 : (t301.toList == t304.toList) = true := beq_iff_eq.mpr c17
          have c17b1 : (t301.toList != t304.toList) = false := bne_eq_false_iff_eq.mpr c17
          clear c17
          by_cases c18 : t302 = t305
          ·rw [if_pos c18] at H
           have c18b0 : (t302 == t305) = true := beq_iff_eq.mpr c18
           have c18b1 : (t302 != t305) = false := bne_eq_false_iff_eq.mpr c18
           clear c18
           replace H := Option.bind_eq_some_iff.mp H
           obtain ⟨t307, A190, H⟩ := H
           replace H : ((caesuraref27_Right.f ((rd_T32 l0 x5_1).f0) ((rd_T32 l0 x5_1).f1) ((rd_T32 l0 x5_1).f2) ((rd_T32 l0 x5_1).f3) ((rd_T32 l0 x5_1).f4) ((rd_T32 l0 x5_1).f5.f0) ((rd_T32 l0 x5_1).f5.f1)).bind fun t309 => (if (t307 != t309) = true then (none) else (caesuralaw27_NoteWrites.l0 k1 l0 a1 (wrap64 (x5_1 + 1))))) = some r := H
           have A19 := Aside0.mk A190
           clear A190
           replace H := Option.bind_eq_some_iff.mp H
           obtain ⟨t309, A200, H⟩ := H
           replace H : (if (t307 != t309) = true then (none) else (caesuralaw27_NoteWrites.l0 k1 l0 a1 (wrap64 (x5_1 + 1)))) = some r := H
           have A20 := Aside0.mk A200
           clear A200
           by_cases c21 : (t307 != t309) = true
           ·rw [if_pos c21] at H
            exact absurd H (by simp)
           ·rw [if_neg c21] at H
            have c21b0 : (t307 != t309) = false := by simpa using c21
            (try (have c21b1 : decide (t307 = t309) = true := by simpa using c21))
            (try (have c21b2 : (t307 == t309) = true := by simpa using c21))
            clear c21
            have H' := Aside0.mk H
            clear H
            have p294 : 0 ≤ (x5_1 : Int) := of_decide_eq_true (by first | (with_reducible assumption) | assumption)
            have q294 : x5_1 < (l0.length : Int) := of_decide_eq_true (by first | (with_reducible assumption) | assumption)
            obtain ⟨ad294, A294_5, c294_5, e294, hx294_0, hx294_1, hx294_2, hx294_3, hx294_4, hx294_5, hx294_6, hl294_5, hi294_5⟩ := at_T32 HR0.out x5_1 p294 q294
            cases e294
            replace hx294_0 := (HB.out.cell (World.block_lt_of_cell? w _ hx294_0)).trans hx294_0
            replace hx294_1 := (HB.out.cell (World.block_lt_of_cell? w _ hx294_1)).trans hx294_1
            replace hx294_2 := (HB.out.cell (World.block_lt_of_cell? w _ hx294_2)).trans hx294_2
            replace hx294_3 := (HB.out.cell (World.block_lt_of_cell? w _ hx294_3)).trans hx294_3
            replace hx294_4 := (HB.out.cell (World.block_lt_of_cell? w _ hx294_4)).trans hx294_4
            replace hx294_5 := (HB.out.cell (World.block_lt_of_cell? w _ hx294_5)).trans hx294_5
            replace hx294_6 := (HB.out.cell (World.block_lt_of_cell? w _ hx294_6)).trans hx294_6
            have HR294_5 := Aside0.mk hi294_5
            have HC294_5 := Aside0.mk hl294_5
            clear hi294_5 hl294_5
            replace p294 := eq_true p294
            replace q294 := eq_true q294
            try go_wp2_with (first | ((with_reducible refine gate_callee (f := 11) rfl ?_); refine goesL_ (some 33) rfl rfl Tryz.func11 (by kernel_rfl) rfl #[.agg #[.int .i64 ((rd_T32 l0 x5_1).f0), .int .i64 ((rd_T32 l0 x5_1).f1), .int .i64 ((rd_T32 l0 x5_1).f2), .string ((rd_T32 l0 x5_1).f3), .bool ((rd_T32 l0 x5_1).f4), .slice A294_5 ((rd_T32 l0 x5_1).f5.f0).length c294_5, .int .i64 ((rd_T32 l0 x5_1).f5.f1)]] rfl (by (try simp only [List.map_toArray, List.map_cons, List.map_nil]); first | done | rfl | (simp only [List.length_drop, List.length_take]; rfl)) ?_; (with_reducible refine (note_Line.calls (hG := ?gok) ((rd_T32 l0 x5_1).f0) ((rd_T32 l0 x5_1).f1) ((rd_T32 l0 x5_1).f2) ((rd_T32 l0 x5_1).f3) ((rd_T32 l0 x5_1).f4) _ _ ((rd_T32 l0 x5_1).f5.f0) ((rd_T32 l0 x5_1).f5.f1) t295 t296 _ ?side1 ?side2 A11.out).mono ?_); (case gok => exact GOK.step hG (by repeat (first | (with_reducible first | exact HB.out | exact Below.refl _ _ | apply below_alloc | apply pw_below_drewN | apply below_drew1) | exact HB.out))); (case side1 => repeat (first | exact (Kd.C_below HR294_5.out HB.out) | (with_reducible refine Kd.C_alloc ?_ _) | (with_reducible refine Kd.C_drewN ?_ _) | (with_reducible refine Kd.C_drew ?_))); (case side2 => exact HC294_5.out); rintro e w22 ⟨rfl, hb⟩; refine ⟨_, rfl, ?_⟩; have n0_ := Aside0.mk (below_step (by repeat (first | (with_reducible first | exact HB.out | apply below_alloc | apply pw_below_drewN | apply below_drew1) | exact HB.out)) hb); clear HB; have HB := n0_; clear n0_; (try clear hb); (try clear hb2); (try clear hk); (try clear hi); have p297 : 0 ≤ (x5_1 : Int) := of_decide_eq_true (by first | (with_reducible assumption) | assumption); have q297 : x5_1 < (l0.length : Int) := of_decide_eq_true (by first | (with_reducible assumption) | assumption); obtain ⟨ad297, A297_5, c297_5, e297, hx297_0, hx297_1, hx297_2, hx297_3, hx297_4, hx297_5, hx297_6, hl297_5, hi297_5⟩ := at_T32 HR0.out x5_1 p297 q297; obtain rfl : ad294 = ad297 := (by injection e297); replace hx297_0 := (HB.out.cell (World.block_lt_of_cell? w _ hx297_0)).trans hx297_0; replace hx297_1 := (HB.out.cell (World.block_lt_of_cell? w _ hx297_1)).trans hx297_1; replace hx297_2 := (HB.out.cell (World.block_lt_of_cell? w _ hx297_2)).trans hx297_2; replace hx297_3 := (HB.out.cell (World.block_lt_of_cell? w _ hx297_3)).trans hx297_3; replace hx297_4 := (HB.out.cell (World.block_lt_of_cell? w _ hx297_4)).trans hx297_4; replace hx297_5 := (HB.out.cell (World.block_lt_of_cell? w _ hx297_5)).trans hx297_5; replace hx297_6 := (HB.out.cell (World.block_lt_of_cell? w _ hx297_6)).trans hx297_6; have HR297_5 := Aside0.mk hi297_5; have HC297_5 := Aside0.mk hl297_5; clear hi297_5 hl297_5; replace p297 := eq_true p297; replace q297 := eq_true q297) | ((with_reducible refine gate_callee (f := 12) rfl ?_); refine goesL_ (some 41) rfl rfl Tryz.func12 (by kernel_rfl) rfl #[.agg #[.int .i64 ((rd_T32 l0 x5_1).f0), .int .i64 ((rd_T32 l0 x5_1).f1), .int .i64 ((rd_T32 l0 x5_1).f2), .string ((rd_T32 l0 x5_1).f3), .bool ((rd_T32 l0 x5_1).f4), .slice A297_5 ((rd_T32 l0 x5_1).f5.f0).length c297_5, .int .i64 ((rd_T32 l0 x5_1).f5.f1)]] rfl (by (try simp only [List.map_toArray, List.map_cons, List.map_nil]); first | done | rfl | (simp only [List.length_drop, List.length_take]; rfl)) ?_; (with_reducible refine (caesuraref27_Line.calls ((rd_T32 l0 x5_1).f0) ((rd_T32 l0 x5_1).f1) ((rd_T32 l0 x5_1).f2) ((rd_T32 l0 x5_1).f3) ((rd_T32 l0 x5_1).f4) _ _ ((rd_T32 l0 x5_1).f5.f0) ((rd_T32 l0 x5_1).f5.f1) t298 t299 _ ?side1 ?side2 A12.out).mono ?_); (case side1 => repeat (first | exact (Kd.C_below HR297_5.out HB.out) | (with_reducible refine Kd.C_alloc ?_ _) | (with_reducible refine Kd.C_drewN ?_ _) | (with_reducible refine Kd.C_drew ?_))); (case side2 => exact HC297_5.out); rintro e w23 ⟨rfl, hb⟩; refine ⟨_, rfl, ?_⟩; have n0_ := Aside0.mk (below_step (by repeat (first | (with_reducible first | exact HB.out | apply below_alloc | apply pw_below_drewN | apply below_drew1) | exact HB.out)) hb); clear HB; have HB := n0_; clear n0_; (try clear hb); (try clear hb2); (try clear hk); (try clear hi); have p300 : 0 ≤ (x5_1 : Int) := of_decide_eq_true (by first | (with_reducible assumption) | assumption); have q300 : x5_1 < (l0.length : Int) := of_decide_eq_true (by first | (with_reducible assumption) | assumption); obtain ⟨ad300, A300_5, c300_5, e300, hx300_0, hx300_1, hx300_2, hx300_3, hx300_4, hx300_5, hx300_6, hl300_5, hi300_5⟩ := at_T32 HR0.out x5_1 p300 q300; obtain rfl : ad294 = ad300 := (by injection e300); replace hx300_0 := (HB.out.cell (World.block_lt_of_cell? w _ hx300_0)).trans hx300_0; replace hx300_1 := (HB.out.cell (World.block_lt_of_cell? w _ hx300_1)).trans hx300_1; replace hx300_2 := (HB.out.cell (World.block_lt_of_cell? w _ hx300_2)).trans hx300_2; replace hx300_3 := (HB.out.cell (World.block_lt_of_cell? w _ hx300_3)).trans hx300_3; replace hx300_4 := (HB.out.cell (World.block_lt_of_cell? w _ hx300_4)).trans hx300_4; replace hx300_5 := (HB.out.cell (World.block_lt_of_cell? w _ hx300_5)).trans hx300_5; replace hx300_6 := (HB.out.cell (World.block_lt_of_cell? w _ hx300_6)).trans hx300_6; have HR300_5 := Aside0.mk hi300_5; have HC300_5 := Aside0.mk hl300_5; clear hi300_5 hl300_5; replace p300 := eq_true p300; replace q300 := eq_true q300) | ((with_reducible refine gate_callee (f := 13) rfl ?_); refine goesL_ (some 49) rfl rfl Tryz.func13 (by kernel_rfl) rfl #[.agg #[.int .i64 ((rd_T32 l0 x5_1).f0), .int .i64 ((rd_T32 l0 x5_1).f1), .int .i64 ((rd_T32 l0 x5_1).f2), .string ((rd_T32 l0 x5_1).f3), .bool ((rd_T32 l0 x5_1).f4), .slice A300_5 ((rd_T32 l0 x5_1).f5.f0).length c300_5, .int .i64 ((rd_T32 l0 x5_1).f5.f1)]] rfl (by (try simp only [List.map_toArray, List.map_cons, List.map_nil]); first | done | rfl | (simp only [List.length_drop, List.length_take]; rfl)) ?_; (with_reducible refine (note_Say.calls (hG := ?gok) k1 ((rd_T32 l0 x5_1).f0) ((rd_T32 l0 x5_1).f1) ((rd_T32 l0 x5_1).f2) ((rd_T32 l0 x5_1).f3) ((rd_T32 l0 x5_1).f4) _ _ ((rd_T32 l0 x5_1).f5.f0) ((rd_T32 l0 x5_1).f5.f1) t301 t302 _ ?side1 ?side2 A13.out).mono ?_); (case gok => exact GOK.step hG (by repeat (first | (with_reducible first | exact HB.out | exact Below.refl _ _ | apply below_alloc | apply pw_below_drewN | apply below_drew1) | exact HB.out))); (case side1 => repeat (first | exact (Kd.C_below HR300_5.out HB.out) | (with_reducible refine Kd.C_alloc ?_ _) | (with_reducible refine Kd.C_drewN ?_ _) | (with_reducible refine Kd.C_drew ?_))); (case side2 => exact HC300_5.out); rintro e w24 ⟨rfl, hb⟩; refine ⟨_, rfl, ?_⟩; have n0_ := Aside0.mk (below_step (by repeat (first | (with_reducible first | exact HB.out | apply below_alloc | apply pw_below_drewN | apply below_drew1) | exact HB.out)) hb); clear HB; have HB := n0_; clear n0_; (try clear hb); (try clear hb2); (try clear hk); (try clear hi); have p303 : 0 ≤ (x5_1 : Int) := of_decide_eq_true (by first | (with_reducible assumption) | assumption); have q303 : x5_1 < (l0.length : Int) := of_decide_eq_true (by first | (with_reducible assumption) | assumption); obtain ⟨ad303, A303_5, c303_5, e303, hx303_0, hx303_1, hx303_2, hx303_3, hx303_4, hx303_5, hx303_6, hl303_5, hi303_5⟩ := at_T32 HR0.out x5_1 p303 q303; obtain rfl : ad294 = ad303 := (by injection e303); replace hx303_0 := (HB.out.cell (World.block_lt_of_cell? w _ hx303_0)).trans hx303_0; replace hx303_1 := (HB.out.cell (World.block_lt_of_cell? w _ hx303_1)).trans hx303_1; replace hx303_2 := (HB.out.cell (World.block_lt_of_cell? w _ hx303_2)).trans hx303_2; replace hx303_3 := (HB.out.cell (World.block_lt_of_cell? w _ hx303_3)).trans hx303_3; replace hx303_4 := (HB.out.cell (World.block_lt_of_cell? w _ hx303_4)).trans hx303_4; replace hx303_5 := (HB.out.cell (World.block_lt_of_cell? w _ hx303_5)).trans hx303_5; replace hx303_6 := (HB.out.cell (World.block_lt_of_cell? w _ hx303_6)).trans hx303_6; have HR303_5 := Aside0.mk hi303_5; have HC303_5 := Aside0.mk hl303_5; clear hi303_5 hl303_5; replace p303 := eq_true p303; replace q303 := eq_true q303) | ((with_reducible refine gate_callee (f := 14) rfl ?_); refine goesL_ (some 57) rfl rfl Tryz.func14 (by kernel_rfl) rfl #[.agg #[.int .i64 ((rd_T32 l0 x5_1).f0), .int .i64 ((rd_T32 l0 x5_1).f1), .int .i64 ((rd_T32 l0 x5_1).f2), .string ((rd_T32 l0 x5_1).f3), .bool ((rd_T32 l0 x5_1).f4), .slice A303_5 ((rd_T32 l0 x5_1).f5.f0).length c303_5, .int .i64 ((rd_T32 l0 x5_1).f5.f1)]] rfl (by (try simp only [List.map_toArray, List.map_cons, List.map_nil]); first | done | rfl | (simp only [List.length_drop, List.length_take]; rfl)) ?_; (with_reducible refine (caesuraref27_Say.calls ((rd_T32 l0 x5_1).f0) ((rd_T32 l0 x5_1).f1) ((rd_T32 l0 x5_1).f2) ((rd_T32 l0 x5_1).f3) ((rd_T32 l0 x5_1).f4) _ _ ((rd_T32 l0 x5_1).f5.f0) ((rd_T32 l0 x5_1).f5.f1) t304 t305 _ ?side1 ?side2 A14.out).mono ?_); (case side1 => repeat (first | exact (Kd.C_below HR303_5.out HB.out) | (with_reducible refine Kd.C_alloc ?_ _) | (with_reducible refine Kd.C_drewN ?_ _) | (with_reducible refine Kd.C_drew ?_))); (case side2 => exact HC303_5.out); rintro e w25 ⟨rfl, hb⟩; refine ⟨_, rfl, ?_⟩; have n0_ := Aside0.mk (below_step (by repeat (first | (with_reducible first | exact HB.out | apply below_alloc | apply pw_below_drewN | apply below_drew1) | exact HB.out)) hb); clear HB; have HB := n0_; clear n0_; (try clear hb); (try clear hb2); (try clear hk); (try clear hi)))
            have n0_ := Aside0.mk (below_drew1 HB.out)
            clear HB
            have HB := n0_
            clear n0_
            have p306 : 0 ≤ (x5_1 : Int) := of_decide_eq_true (by first | (with_reducible assumption) | assumption)
            have q306 : x5_1 < (l0.length : Int) := of_decide_eq_true (by first | (with_reducible assumption) | assumption)
            obtain ⟨ad306, A306_5, c306_5, e306, hx306_0, hx306_1, hx306_2, hx306_3, hx306_4, hx306_5, hx306_6, hl306_5, hi306_5⟩ := at_T32 HR0.out x5_1 p306 q306
            have hw306_6 := hx306_6
            have hw306_5 := hx306_5
            have hw306_4 := hx306_4
            have hw306_3 := hx306_3
            have hw306_2 := hx306_2
            have hw306_1 := hx306_1
            have hw306_0 := hx306_0
            obtain rfl : ad294 = ad306 := (by injection e306)
            replace hx306_0 := (HB.out.cell (World.block_lt_of_cell? w _ hx306_0)).trans hx306_0
            replace hx306_1 := (HB.out.cell (World.block_lt_of_cell? w _ hx306_1)).trans hx306_1
            replace hx306_2 := (HB.out.cell (World.block_lt_of_cell? w _ hx306_2)).trans hx306_2
            replace hx306_3 := (HB.out.cell (World.block_lt_of_cell? w _ hx306_3)).trans hx306_3
            replace hx306_4 := (HB.out.cell (World.block_lt_of_cell? w _ hx306_4)).trans hx306_4
            replace hx306_5 := (HB.out.cell (World.block_lt_of_cell? w _ hx306_5)).trans hx306_5
            replace hx306_6 := (HB.out.cell (World.block_lt_of_cell? w _ hx306_6)).trans hx306_6
            have HR306_5 := Aside0.mk hi306_5
            have HC306_5 := Aside0.mk hl306_5
            clear hi306_5 hl306_5
            replace p306 := eq_true p306
            replace q306 := eq_true q306
            have p308 : 0 ≤ (x5_1 : Int) := of_decide_eq_true (by first | (with_reducible assumption) | assumption)
            have q308 : x5_1 < (l0.length : Int) := of_decide_eq_true (by first | (with_reducible assumption) | assumption)
            obtain ⟨ad308, A308_5, c308_5, e308, hx308_0, hx308_1, hx308_2, hx308_3, hx308_4, hx308_5, hx308_6, hl308_5, hi308_5⟩ := at_T32 HR0.out x5_1 p308 q308
            have hw308_6 := hx308_6
            have hw308_5 := hx308_5
            have hw308_4 := hx308_4
            have hw308_3 := hx308_3
            have hw308_2 := hx308_2
            have hw308_1 := hx308_1
            have hw308_0 := hx308_0
            obtain rfl : ad294 = ad308 := (by injection e308)
            replace hx308_0 := (HB.out.cell (World.block_lt_of_cell? w _ hx308_0)).trans hx308_0
            replace hx308_1 := (HB.out.cell (World.block_lt_of_cell? w _ hx308_1)).trans hx308_1
            replace hx308_2 := (HB.out.cell (World.block_lt_of_cell? w _ hx308_2)).trans hx308_2
            replace hx308_3 := (HB.out.cell (World.block_lt_of_cell? w _ hx308_3)).trans hx308_3
            replace hx308_4 := (HB.out.cell (World.block_lt_of_cell? w _ hx308_4)).trans hx308_4
            replace hx308_5 := (HB.out.cell (World.block_lt_of_cell? w _ hx308_5)).trans hx308_5
            replace hx308_6 := (HB.out.cell (World.block_lt_of_cell? w _ hx308_6)).trans hx308_6
            have HR308_5 := Aside0.mk hi308_5
            have HC308_5 := Aside0.mk hl308_5
            clear hi308_5 hl308_5
            replace p308 := eq_true p308
            replace q308 := eq_true q308
            have ea_ := Option.some.inj (hx306_5.symm.trans hx308_5)
            injection ea_ with ea_ en_ ec_
            subst ea_
            subst ec_
            clear en_
            refine rs_ (S := fun w' => w'.cell? (ad294.add ((x5_1).toNat * 7)) = some (.int .i64 ((rd_T32 l0 x5_1).f0)) ∧ w'.cell? ⟨(ad294.add ((x5_1).toNat * 7)).block, (ad294.add ((x5_1).toNat * 7)).off + 1, none⟩ = some (.int .i64 ((rd_T32 l0 x5_1).f1)) ∧ w'.cell? ⟨(ad294.add ((x5_1).toNat * 7)).block, (ad294.add ((x5_1).toNat * 7)).off + 2, none⟩ = some (.int .i64 ((rd_T32 l0 x5_1).f2)) ∧ w'.cell? ⟨(ad294.add ((x5_1).toNat * 7)).block, (ad294.add ((x5_1).toNat * 7)).off + 3, none⟩ = some (.string ((rd_T32 l0 x5_1).f3)) ∧ w'.cell? ⟨(ad294.add ((x5_1).toNat * 7)).block, (ad294.add ((x5_1).toNat * 7)).off + 4, none⟩ = some (.bool ((rd_T32 l0 x5_1).f4)) ∧ w'.cell? ⟨(ad294.add ((x5_1).toNat * 7)).block, (ad294.add ((x5_1).toNat * 7)).off + 5, none⟩ = some (.slice A306_5 ((rd_T32 l0 x5_1).f5.f0).length c306_5) ∧ w'.cell? ⟨(ad294.add ((x5_1).toNat * 7)).block, (ad294.add ((x5_1).toNat * 7)).off + 6, none⟩ = some (.int .i64 ((rd_T32 l0 x5_1).f5.f1)) ∧ w'.cell? (ad294.add ((x5_1).toNat * 7)) = some (.int .i64 ((rd_T32 l0 x5_1).f0)) ∧ w'.cell? ⟨(ad294.add ((x5_1).toNat * 7)).block, (ad294.add ((x5_1).toNat * 7)).off + 1, none⟩ = some (.int .i64 ((rd_T32 l0 x5_1).f1)) ∧ w'.cell? ⟨(ad294.add ((x5_1).toNat * 7)).block, (ad294.add ((x5_1).toNat * 7)).off + 2, none⟩ = some (.int .i64 ((rd_T32 l0 x5_1).f2)) ∧ w'.cell? ⟨(ad294.add ((x5_1).toNat * 7)).block, (ad294.add ((x5_1).toNat * 7)).off + 3, none⟩ = some (.string ((rd_T32 l0 x5_1).f3)) ∧ w'.cell? ⟨(ad294.add ((x5_1).toNat * 7)).block, (ad294.add ((x5_1).toNat * 7)).off + 4, none⟩ = some (.bool ((rd_T32 l0 x5_1).f4)) ∧ w'.cell? ⟨(ad294.add ((x5_1).toNat * 7)).block, (ad294.add ((x5_1).toNat * 7)).off + 5, none⟩ = some (.slice A306_5 ((rd_T32 l0 x5_1).f5.f0).length c306_5) ∧ w'.cell? ⟨(ad294.add ((x5_1).toNat * 7)).block, (ad294.add ((x5_1).toNat * 7)).off + 6, none⟩ = some (.int .i64 ((rd_T32 l0 x5_1).f5.f1))) [0, 1, 2, 3, 4, 5, 6, 7, 8, 9, 10, 11, 12, 13, 14, 15, 16, 17, 18, 19, 20, 21, 24, 25, 26, 22, 27, 23, 28, 29, 30] ⟨((HB.out.cell (World.block_lt_of_cell? w _ hw306_0)).trans hw306_0), ((HB.out.cell (World.block_lt_of_cell? w _ hw306_1)).trans hw306_1), ((HB.out.cell (World.block_lt_of_cell? w _ hw306_2)).trans hw306_2), ((HB.out.cell (World.block_lt_of_cell? w _ hw306_3)).trans hw306_3), ((HB.out.cell (World.block_lt_of_cell? w _ hw306_4)).trans hw306_4), ((HB.out.cell (World.block_lt_of_cell? w _ hw306_5)).trans hw306_5), ((HB.out.cell (World.block_lt_of_cell? w _ hw306_6)).trans hw306_6), ((HB.out.cell (World.block_lt_of_cell? w _ hw308_0)).trans hw308_0), ((HB.out.cell (World.block_lt_of_cell? w _ hw308_1)).trans hw308_1), ((HB.out.cell (World.block_lt_of_cell? w _ hw308_2)).trans hw308_2), ((HB.out.cell (World.block_lt_of_cell? w _ hw308_3)).trans hw308_3), ((HB.out.cell (World.block_lt_of_cell? w _ hw308_4)).trans hw308_4), ((HB.out.cell (World.block_lt_of_cell? w _ hw308_5)).trans hw308_5), ((HB.out.cell (World.block_lt_of_cell? w _ hw308_6)).trans hw308_6)⟩ (fun hHeld => ?_)
            generalize w25.drew = w26 at HB HR306_5 HR308_5 hx306_0 hx306_1 hx306_2 hx306_3 hx306_4 hx306_5 hx306_6 hx308_0 hx308_1 hx308_2 hx308_3 hx308_4 hx308_5 hx308_6 hHeld ⊢
            iterate 25 refine rp_ ?_
            iterate 2 refine rt_ hHeld ?_ (hy := by rintro w' ⟨s0, s1, s2, s3, s4, s5, s6, s7, s8, s9, s10, s11, s12, s13⟩; go_simp; with_reducible rfl)
            refine r1_ (fun K hK => ?_)
            refine goes_ Tryz.func15 (by kernel_rfl) rfl #[.agg #[.int .i64 ((rd_T32 l0 x5_1).f0), .int .i64 ((rd_T32 l0 x5_1).f1), .int .i64 ((rd_T32 l0 x5_1).f2), .string ((rd_T32 l0 x5_1).f3), .bool ((rd_T32 l0 x5_1).f4), .slice A306_5 ((rd_T32 l0 x5_1).f5.f0).length c306_5, .int .i64 ((rd_T32 l0 x5_1).f5.f1)]] (by rfl) rfl rfl (by (try simp only [List.map_toArray, List.map_cons, List.map_nil]); first | done | rfl | (simp only [List.length_drop, List.length_take]; rfl)) ?_
            with_reducible refine (note_Right.calls (hG := ?gok) ((rd_T32 l0 x5_1).f0) ((rd_T32 l0 x5_1).f1) ((rd_T32 l0 x5_1).f2) ((rd_T32 l0 x5_1).f3) ((rd_T32 l0 x5_1).f4) _ _ ((rd_T32 l0 x5_1).f5.f0) ((rd_T32 l0 x5_1).f5.f1) t307 _ ?side1 ?side2 A19.out).mono ?_
            (case gok => exact GOK.step hG (by repeat (first | (with_reducible first | exact HB.out | exact Below.refl _ _ | apply below_alloc | apply pw_below_drewN | apply below_drew1) | exact HB.out)))
            (case side1 => repeat (first | exact (Kd.C_below HR306_5.out HB.out) | (with_reducible refine Kd.C_alloc ?_ _) | (with_reducible refine Kd.C_drewN ?_ _) | (with_reducible refine Kd.C_drew ?_)))
            (case side2 => exact HC306_5.out)
            rintro e w27 ⟨rfl, hb⟩
            refine ⟨_, rfl, ?_⟩
            have n0_ := Aside0.mk (below_step (by repeat (first | (with_reducible first | exact HB.out | apply below_alloc | apply pw_below_drewN | apply below_drew1) | exact HB.out)) hb)
            clear HB
            have HB := n0_
            clear n0_
            (try clear hb)
            (try clear hb2)
            (try clear hk)
            (try clear hi)
            refine hK.out _ _ ⟨((HB.out.cell (World.block_lt_of_cell? w _ hw306_0)).trans hw306_0), ((HB.out.cell (World.block_lt_of_cell? w _ hw306_1)).trans hw306_1), ((HB.out.cell (World.block_lt_of_cell? w _ hw306_2)).trans hw306_2), ((HB.out.cell (World.block_lt_of_cell? w _ hw306_3)).trans hw306_3), ((HB.out.cell (World.block_lt_of_cell? w _ hw306_4)).trans hw306_4), ((HB.out.cell (World.block_lt_of_cell? w _ hw306_5)).trans hw306_5), ((HB.out.cell (World.block_lt_of_cell? w _ hw306_6)).trans hw306_6), ((HB.out.cell (World.block_lt_of_cell? w _ hw308_0)).trans hw308_0), ((HB.out.cell (World.block_lt_of_cell? w _ hw308_1)).trans hw308_1), ((HB.out.cell (World.block_lt_of_cell? w _ hw308_2)).trans hw308_2), ((HB.out.cell (World.block_lt_of_cell? w _ hw308_3)).trans hw308_3), ((HB.out.cell (World.block_lt_of_cell? w _ hw308_4)).trans hw308_4), ((HB.out.cell (World.block_lt_of_cell? w _ hw308_5)).trans hw308_5), ((HB.out.cell (World.block_lt_of_cell? w _ hw308_6)).trans hw308_6)⟩ (fun hHeld => ?_)
            clear hK K
            refine rn_ ?_
            refine r1_ (fun K hK => ?_)
            refine goes_ Tryz.func16 (by kernel_rfl) rfl #[.agg #[.int .i64 ((rd_T32 l0 x5_1).f0), .int .i64 ((rd_T32 l0 x5_1).f1), .int .i64 ((rd_T32 l0 x5_1).f2), .string ((rd_T32 l0 x5_1).f3), .bool ((rd_T32 l0 x5_1).f4), .slice A306_5 ((rd_T32 l0 x5_1).f5.f0).length c306_5, .int .i64 ((rd_T32 l0 x5_1).f5.f1)]] (by rfl) rfl rfl (by (try simp only [List.map_toArray, List.map_cons, List.map_nil]); first | done | rfl | (simp only [List.length_drop, List.length_take]; rfl)) ?_
            with_reducible refine (caesuraref27_Right.calls ((rd_T32 l0 x5_1).f0) ((rd_T32 l0 x5_1).f1) ((rd_T32 l0 x5_1).f2) ((rd_T32 l0 x5_1).f3) ((rd_T32 l0 x5_1).f4) _ _ ((rd_T32 l0 x5_1).f5.f0) ((rd_T32 l0 x5_1).f5.f1) t309 _ ?side1 ?side2 A20.out).mono ?_
            (case side1 => repeat (first | exact (Kd.C_below HR308_5.out HB.out) | (with_reducible refine Kd.C_alloc ?_ _) | (with_reducible refine Kd.C_drewN ?_ _) | (with_reducible refine Kd.C_drew ?_)))
            (case side2 => exact HC308_5.out)
            rintro e w28 ⟨rfl, hb⟩
            refine ⟨_, rfl, ?_⟩
            have n0_ := Aside0.mk (below_step (by repeat (first | (with_reducible first | exact HB.out | apply below_alloc | apply pw_below_drewN | apply below_drew1) | exact HB.out)) hb)
            clear HB
            have HB := n0_
            clear n0_
            (try clear hb)
            (try clear hb2)
            (try clear hk)
            (try clear hi)
            refine hK.out _ _ ⟨((HB.out.cell (World.block_lt_of_cell? w _ hw306_0)).trans hw306_0), ((HB.out.cell (World.block_lt_of_cell? w _ hw306_1)).trans hw306_1), ((HB.out.cell (World.block_lt_of_cell? w _ hw306_2)).trans hw306_2), ((HB.out.cell (World.block_lt_of_cell? w _ hw306_3)).trans hw306_3), ((HB.out.cell (World.block_lt_of_cell? w _ hw306_4)).trans hw306_4), ((HB.out.cell (World.block_lt_of_cell? w _ hw306_5)).trans hw306_5), ((HB.out.cell (World.block_lt_of_cell? w _ hw306_6)).trans hw306_6), ((HB.out.cell (World.block_lt_of_cell? w _ hw308_0)).trans hw308_0), ((HB.out.cell (World.block_lt_of_cell? w _ hw308_1)).trans hw308_1), ((HB.out.cell (World.block_lt_of_cell? w _ hw308_2)).trans hw308_2), ((HB.out.cell (World.block_lt_of_cell? w _ hw308_3)).trans hw308_3), ((HB.out.cell (World.block_lt_of_cell? w _ hw308_4)).trans hw308_4), ((HB.out.cell (World.block_lt_of_cell? w _ hw308_5)).trans hw308_5), ((HB.out.cell (World.block_lt_of_cell? w _ hw308_6)).trans hw308_6)⟩ (fun hHeld => ?_)
            clear hK K
            refine rn_ ?_
            iterate 2 refine rp_ ?_
            refine rd_ ?_
            try go_wp2
            go_roundg k1
            case measure => have := HK1.out; omega
            case rel => exact ⟨(wrap64 (x5_1 + 1)), (by first | rfl | (simp; done) | (simp [*]; done)), H', ⟨by have := HK1.out; omega⟩, ⟨by repeat (first | (with_reducible first | exact HB.out | apply below_alloc | apply pw_below_drewN | apply below_drew1) | exact HB.out)⟩⟩
          ·rw [if_neg c18] at H
           have c18b0 : (t302 == t305) = false := beq_eq_false_iff_ne.mpr c18
           have c18b1 : (t302 != t305) = true := bne_iff_ne.mpr c18
           exact absurd H (by simp)
         ·rw [if_neg c17] at H
          have c17b0 : (t301.toList == t304.toList) = false := beq_eq_false_iff_ne.mpr c17
          have c17b1 : (t301.toList != t304.toList) = true := bne_iff_ne.mpr c17
          exact absurd H (by simp)
        ·rw [if_neg c16] at H
         have c16b0 : (t296 == t299) = false := beq_eq_false_iff_ne.mpr c16
         have c16b1 : (t296 != t299) = true := bne_iff_ne.mpr c16
         exact absurd H (by simp)
       ·rw [if_neg c15] at H
        have c15b0 : (t295.toList == t298.toList) = false := beq_eq_false_iff_ne.mpr c15
        have c15b1 : (t295.toList != t298.toList) = true := bne_iff_ne.mpr c15
        exact absurd H (by simp)
      ·rw [if_neg c10] at H
       exact absurd H (by simp)
     ·rw [if_neg c9] at H
      have c9b0 : decide (x5_1 < (l0.length : Int)) = false := decide_eq_false c9
      clear c9
      replace H := Option.bind_eq_some_iff.mp H
      obtain ⟨⟨t310, t311⟩, A290, H⟩ := H
      replace H : ((caesuraref27_Text.f k1 l0).bind fun bt312 => (if t310.toList = bt312.1.toList then (if t311 = bt312.2 then ((note_Word.f a1).bind fun t314 => ((caesuraref27_Word.f a1).bind fun t315 => (some (t314.toList == t315.toList)))) else (none)) else (none))) = some r := H
      have A29 := Aside0.mk A290
      clear A290
      replace H := Option.bind_eq_some_iff.mp H
      obtain ⟨⟨t312, t313⟩, A300, H⟩ := H
      replace H : (if t310.toList = t312.toList then (if t311 = t313 then ((note_Word.f a1).bind fun t314 => ((caesuraref27_Word.f a1).bind fun t315 => (some (t314.toList == t315.toList)))) else (none)) else (none)) = some r := H
      have A30 := Aside0.mk A300
      clear A300
      by_cases c31 : t310.toList = t312.toList
      ·rw [if_pos c31] at H
       have c31b0 : (t310.toList == t312.toList) = true := beq_iff_eq.mpr c31
       have c31b1 : (t310.toList != t312.toList) = false := bne_eq_false_iff_eq.mpr c31
       clear c31
       by_cases c32 : t311 = t313
       ·rw [if_pos c32] at H
        have c32b0 : (t311 == t313) = true := beq_iff_eq.mpr c32
        have c32b1 : (t311 != t313) = false := bne_eq_false_iff_eq.mpr c32
        clear c32
        replace H := Option.bind_eq_some_iff.mp H
        obtain ⟨t314, A330, H⟩ := H
        replace H : ((caesuraref27_Word.f a1).bind fun t315 => (some (t314.toList == t315.toList))) = some r := H
        have A33 := Aside0.mk A330
        clear A330
        replace H := Option.bind_eq_some_iff.mp H
        obtain ⟨t315, A340, H⟩ := H
        replace H : (some (t314.toList == t315.toList)) = some r := H
        have A34 := Aside0.mk A340
        clear A340
        obtain rfl := Option.some.inj H
        go_wp2_with (first | ((with_reducible refine gate_callee (f := 17) rfl ?_); refine goesL_ (some 93) rfl rfl Tryz.func17 (by kernel_rfl) rfl #[.slice A0 l0.length c0] rfl (by (try simp only [List.map_toArray, List.map_cons, List.map_nil]); first | done | rfl | (simp only [List.length_drop, List.length_take]; rfl)) ?_; (with_reducible refine (note_Text.calls (hG := ?gok) _ _ l0 t310 t311 _ ?side1 ?side2 A29.out).mono ?_); (case gok => exact GOK.step hG (by repeat (first | (with_reducible first | exact HB.out | exact Below.refl _ _ | apply below_alloc | apply pw_below_drewN | apply below_drew1) | exact HB.out))); (case side1 => repeat (first | exact (Kd.C_below HR0.out HB.out) | (with_reducible refine Kd.C_alloc ?_ _) | (with_reducible refine Kd.C_drewN ?_ _) | (with_reducible refine Kd.C_drew ?_))); (case side2 => exact HC0.out); rintro e w35 ⟨rfl, hb⟩; refine ⟨_, rfl, ?_⟩; have n0_ := Aside0.mk (below_step (by repeat (first | (with_reducible first | exact HB.out | apply below_alloc | apply pw_below_drewN | apply below_drew1) | exact HB.out)) hb); clear HB; have HB := n0_; clear n0_; (try clear hb); (try clear hb2); (try clear hk); (try clear hi)) | ((with_reducible refine gate_callee (f := 18) rfl ?_); refine goesL_ (some 98) rfl rfl Tryz.func18 (by kernel_rfl) rfl #[.slice A0 l0.length c0] rfl (by (try simp only [List.map_toArray, List.map_cons, List.map_nil]); first | done | rfl | (simp only [List.length_drop, List.length_take]; rfl)) ?_; (with_reducible refine (caesuraref27_Text.calls k1 _ _ l0 t312 t313 _ ?side1 ?side2 A30.out).mono ?_); (case side1 => repeat (first | exact (Kd.C_below HR0.out HB.out) | (with_reducible refine Kd.C_alloc ?_ _) | (with_reducible refine Kd.C_drewN ?_ _) | (with_reducible refine Kd.C_drew ?_))); (case side2 => exact HC0.out); rintro e w36 ⟨rfl, hb⟩; refine ⟨_, rfl, ?_⟩; have n0_ := Aside0.mk (below_step (by repeat (first | (with_reducible first | exact HB.out | apply below_alloc | apply pw_below_drewN | apply below_drew1) | exact HB.out)) hb); clear HB; have HB := n0_; clear n0_; (try clear hb); (try clear hb2); (try clear hk); (try clear hi)) | (go_at_call 19; (with_reducible refine (note_Word.calls a1 t314 _ A33.out).mono ?_); rintro e w37 ⟨rfl, hb⟩; have n0_ := Aside0.mk (below_step (by repeat (first | (with_reducible first | exact HB.out | apply below_alloc | apply pw_below_drewN | apply below_drew1) | exact HB.out)) hb); clear HB; have HB := n0_; clear n0_; (try clear hb); (try clear hb2); (try clear hk); (try clear hi)) | (go_at_call 20; (with_reducible refine (caesuraref27_Word.calls a1 t315 _ A34.out).mono ?_); rintro e w38 ⟨rfl, hb⟩; have n0_ := Aside0.mk (below_step (by repeat (first | (with_reducible first | exact HB.out | apply below_alloc | apply pw_below_drewN | apply below_drew1) | exact HB.out)) hb); clear HB; have HB := n0_; clear n0_; (try clear hb); (try clear hb2); (try clear hk); (try clear hi)))
        go_ret
        exact ⟨by first | rfl | (simp [errW_none, errW_some] <;> rfl) | (simp [*, errW_none, errW_some] <;> rfl), by repeat (first | (with_reducible first | exact HB.out | apply below_alloc | apply pw_below_drewN | apply below_drew1) | exact HB.out)⟩
       ·rw [if_neg c32] at H
        exact absurd H (by simp)
      ·rw [if_neg c31] at H
       exact absurd H (by simp)
 ·replace c4 := Bool.eq_false_iff.mpr c4
  subst c4
  have H1 : (none) = some r := by rw [if_neg (show ¬ (false = true) by decide)] at H; exact H
  clear H
  have H := H1
  clear H1
  exact absurd H (by simp)
end Go.Proofs.YtlenlhnpmblicaaGreatDoor.XA
end
section
set_option linter.unusedVariables false
set_option linter.unusedSimpArgs false
namespace Go.Proofs.YtlenlhnpmblicaaGreatDoor.NB
set_option linter.unusedSimpArgs false
set_option linter.unusedVariables false
open Go.RowKit Go.Proofs.YtlenlhnpmblicaaGreatDoor.XA
open Go.Proofs.YtlenlhnpmblicaaGreatDoorW.PrintWords
theorem refRight_x (x : S32) : caesuraref27_Right.f x.f0 x.f1 x.f2 x.f3 x.f4 x.f5.f0 x.f5.f1 = some (!wrongB x) := by
 unfold caesuraref27_Right.f wrongB
 rw [Bool.not_not]
theorem rtext1 (l : List S32) (hl : l.length ≤ 1000) (h : ∀ x ∈ l, okD x ∧ wrongB x = false) : ∀ (d i k : Nat), d + i = l.length → d < k → caesuraref27_Text.l1 k l (mkB (linesT (l.take i))) (i : Int) = some (mkB (linesT l), 0)
 | 0, i, k, hd, hk => by
  obtain ⟨k, rfl⟩ : ∃ j, k = j + 1 := ⟨k - 1, by omega⟩
  rw [caesuraref27_Text.l1, if_neg (by omega), List.take_of_length_le (by omega)]
 | d + 1, i, k, hd, hk => by
  obtain ⟨k, rfl⟩ : ∃ j, k = j + 1 := ⟨k - 1, by omega⟩
  have h0 : i < l.length := by omega
  have hx := h l[i] (List.getElem_mem h0)
  rcases line_out l[i] hx.1 with ⟨hw, _⟩ | ⟨_, s, h1, h2, h3, h4⟩
  ·rw [hx.2] at hw; cases hw
  have ih := rtext1 l hl h d (i + 1) k (by omega) (by omega)
  have hlen := linesT_len (l.take i) (fun y hy => (h y (List.mem_of_mem_take hy)).1)
  have hle : (l.take i).length ≤ 1000 := by rw [List.length_take]; omega
  have hm : (mkB (linesT (l.take i))).size ≤ 200000000 := by
   show (List.toArray _).size ≤ _
   rw [List.size_toArray]
   omega
  have e : linesT (l.take (i + 1)) = linesT (l.take i) ++ (s.data.toList ++ [10]) := by
   rw [List.take_succ_eq_append_getElem h0]
   unfold linesT
   rw [List.flatMap_append, List.flatMap_cons, List.flatMap_nil, List.append_nil, h3]
  have e2 : mkB (linesT (l.take (i + 1))) = (mkB (linesT (l.take i)) ++ s) ++ (⟨#[10]⟩ : ByteArray) := by
   rw [e]
   apply ba_eq
   rw [ByteArray.data_append, Array.toList_append, ByteArray.data_append, Array.toList_append, List.append_assoc]
  rw [e2] at ih
  have ew : wrap64 ((i : Int) + 1) = ((i + 1 : Nat) : Int) := by unfold wrap64; omega
  rw [caesuraref27_Text.l1, if_pos (by omega), if_pos (by omega), rdT_getElem l i h0, ew]
  unfold caesuraref27_Line.f
  rw [h2, Option.bind_some]
  simp only
  rw [if_pos (by omega), if_pos (by rw [ByteArray.size_append]; omega)]
  exact ih
theorem rtext0 (l : List S32) (hl : l.length ≤ 3000) (h : ∀ x ∈ l, okD x) : ∀ (d i k : Nat), d + i = l.length → d + l.length + 1 < k → (∀ x ∈ l.take i, wrongB x = false) → caesuraref27_Text.l0 k l (i : Int) = note_Text.f l
 | 0, i, k, hd, hk, ha => by
  obtain ⟨k, rfl⟩ : ∃ j, k = j + 1 := ⟨k - 1, by omega⟩
  rw [List.take_of_length_le (by omega)] at ha
  have hw : ¬ l.any wrongB = true := by
   rw [Bool.not_eq_true]
   exact List.any_eq_false.2 fun x hx => by rw [ha x hx]; decide
  rw [caesuraref27_Text.l0, if_neg (by omega)]
  by_cases h1 : l.length ≤ 1000
  ·rw [if_neg (by omega), text_f l h h1, if_neg hw]
   exact rtext1 l h1 (fun x hx => ⟨h x hx, ha x hx⟩) l.length 0 k (by omega) (by omega)
  ·rw [if_pos (by omega)]
   unfold note_Text.f
   rw [if_pos (List.all_eq_true.2 fun x hx => decide_eq_true (by have := (h x hx).1; omega)), if_neg hw, if_pos (by omega)]
 | d + 1, i, k, hd, hk, ha => by
  obtain ⟨k, rfl⟩ : ∃ j, k = j + 1 := ⟨k - 1, by omega⟩
  have h0 : i < l.length := by omega
  have ew : wrap64 ((i : Int) + 1) = ((i + 1 : Nat) : Int) := by unfold wrap64; omega
  rw [caesuraref27_Text.l0, if_pos (by omega), if_pos (by omega), rdT_getElem l i h0, ew, refRight_x, Option.bind_some]
  cases hw : wrongB l[i] with
  | false =>
   rw [if_pos (by decide)]
   refine rtext0 l hl h d (i + 1) k (by omega) (by omega) fun x hx => ?_
   rw [List.take_succ_eq_append_getElem h0] at hx
   rcases List.mem_append.1 hx with hx | hx
   ·exact ha x hx
   ·rw [List.mem_singleton.1 hx]; exact hw
  | true =>
   rw [if_neg (by decide)]
   unfold note_Text.f
   rw [if_pos (List.all_eq_true.2 fun x hx => decide_eq_true (by have := (h x hx).1; omega)), if_pos (List.any_eq_true.2 ⟨l[i], List.getElem_mem h0, hw⟩)]
theorem refSay_x (k : Nat) (x : S32) (h : okD x) : ∃ r, note_Say.f (k + 1) x.f0 x.f1 x.f2 x.f3 x.f4 x.f5.f0 x.f5.f1 = some r ∧ caesuraref27_Say.f x.f0 x.f1 x.f2 x.f3 x.f4 x.f5.f0 x.f5.f1 = some r := by
 obtain ⟨sh, hsh, hl⟩ := shown_some x.f5.f0 x.f5.f1 h.2.1 h.2.2.1 h.2.2.2
 rw [Say_f k x h]
 unfold caesuraref27_Say.f
 by_cases hr : rightB x.f0 x.f1 x.f2 x.f3 x.f5.f0 x.f5.f1 = true
 ·rw [if_pos hr, if_pos hr, hsh, Option.bind_some, if_pos ⟨h.1, hl⟩]
  exact ⟨_, rfl, rfl⟩
 ·rw [if_neg hr, if_neg hr]
  exact ⟨_, rfl, rfl⟩
theorem writes_l (l : List S32) (hl : l.length ≤ 3000) (h : ∀ x ∈ l, okD x) (n : Int) : ∀ (d i k : Nat), d + i = l.length → d + l.length + l.length + 5 < k → caesuralaw27_NoteWrites.l0 k l n (i : Int) = some true
 | 0, i, k, hd, hk => by
  obtain ⟨k, rfl⟩ : ∃ j, k = j + 1 := ⟨k - 1, by omega⟩
  rw [caesuralaw27_NoteWrites.l0, if_neg (by omega)]
  have ht : ∃ r, note_Text.f l = some r := by
   by_cases h1 : l.length ≤ 1000
   ·exact ⟨_, text_f l h h1⟩
   ·unfold note_Text.f
    rw [if_pos (List.all_eq_true.2 fun x hx => decide_eq_true (by have := (h x hx).1; omega))]
    by_cases hw : l.any wrongB = true
    ·rw [if_pos hw]; exact ⟨_, rfl⟩
    ·rw [if_neg hw, if_pos (by omega)]; exact ⟨_, rfl⟩
  obtain ⟨r, hr⟩ := ht
  have h2 := rtext0 l hl h l.length 0 k (by omega) (by omega) (fun x hx => by simp at hx)
  unfold caesuraref27_Text.f
  have h2' : caesuraref27_Text.l0 k l 0 = note_Text.f l := h2
  rw [h2', hr, Option.bind_some, Option.bind_some, if_pos rfl, if_pos rfl, refWord_f]
  show some (((kindW n).toList == (kindW n).toList)) = _
  rw [beq_self_eq_true]
 | d + 1, i, k, hd, hk => by
  obtain ⟨k, rfl⟩ : ∃ j, k = j + 1 := ⟨k - 1, by omega⟩
  have h0 : i < l.length := by omega
  have ew : wrap64 ((i : Int) + 1) = ((i + 1 : Nat) : Int) := by unfold wrap64; omega
  have hx := h l[i] (List.getElem_mem h0)
  have ih := writes_l l hl h n d (i + 1) k (by omega) (by omega)
  have hL : ∃ r, note_Line.f l[i].f0 l[i].f1 l[i].f2 l[i].f3 l[i].f4 l[i].f5.f0 l[i].f5.f1 = some r := by
   rcases line_out l[i] hx with ⟨_, h1⟩ | ⟨_, s, _, h1, _⟩ <;> exact ⟨_, h1⟩
  obtain ⟨r, hr⟩ := hL
  obtain ⟨j, rfl⟩ : ∃ j, k = j + 1 := ⟨k - 1, by omega⟩
  obtain ⟨q, hq1, hq2⟩ := refSay_x j l[i] hx
  rw [caesuralaw27_NoteWrites.l0, if_pos (by omega), if_pos (by omega), rdT_getElem l i h0, ew]
  unfold caesuraref27_Line.f
  rw [hr, Option.bind_some, Option.bind_some, hq1, Option.bind_some, hq2, Option.bind_some, if_pos rfl, if_pos rfl, if_pos rfl, if_pos rfl, refRight_x]
  unfold note_Right.f
  rw [if_pos (by have := hx.1; omega), Option.bind_some, Option.bind_some, ih]
  unfold wrongB
  rw [Bool.not_not, if_neg (by simp)]
theorem noteWrites_plain (l : List S32) (n : Int) (ha : ∀ x ∈ l, wfD x) (la : l.length * 80 ≤ reachBytes) : ∃ k, caesuralaw27_NoteWrites.f k l n = some true := by
 have hrb : reachBytes ≤ 1000000000000000 := by decide
 have wa : ∀ x ∈ l, x.f3.size ≤ 1000000000000000 ∧ x.f5.f0.length ≤ 1000000000000000 := fun x hx => ⟨by have := (ha x hx).2.2.2.1; omega, by have := (ha x hx).2.2.2.2.2.1; omega⟩
 refine ⟨3 * l.length + 10, ?_⟩
 have ga := great_f 3000 (by decide) l (by omega) wa (3 * l.length + 10) (by omega)
 unfold caesuralaw27_NoteWrites.f caesuralaw27_alive.f
 rw [Option.bind_some, if_pos rfl]
 have e30 : ((3000 : Nat) : Int) = 3000 := rfl
 rw [e30] at ga
 rw [ga, Option.bind_some]
 by_cases c1 : 3000 < l.length + totD l
 ·rw [decide_eq_true c1, if_pos rfl]
 rw [decide_eq_false c1, if_neg (by decide)]
 exact writes_l l (by omega) (okD_of l ha 3000 (by decide) c1) n l.length 0 _ (by omega) (by omega)
theorem noteWrites_calls (x0 : List S32) (n : Int) (A0 : Option Addr) (c0 : Nat) (W : World) (hG : GOK W) (g0 : Kd.C k32 W A0 x0.length x0) (l0 : x0.length ≤ c0) (w0 : (∀ q, q ∈ x0 → wfD q) ∧ x0.length * 80 ≤ reachBytes) :
  Calls Tryz.prog 3 #[.slice A0 x0.length c0, .int .i64 n] W fun e w' => e = .returned (.bool true) ∧ Below W.heap.size W w' := by
 obtain ⟨k, hk⟩ := noteWrites_plain x0 n w0.1 w0.2
 exact caesuralaw27_NoteWrites.calls k A0 c0 x0 n true W hG g0 l0 hk
end Go.Proofs.YtlenlhnpmblicaaGreatDoor.NB
end
section
set_option linter.unusedVariables false
set_option linter.unusedSimpArgs false
namespace Go.Proofs.YtlenlhnpmblicaaGreatDoor.XA.noteWrites
open Go.ChangeShapes Go.WideShapes Go.ChangeAt Go.RowKit
open Go.ChangeMaps (open_string shut_string)
theorem reads (os : Os) {H : Type} (enc : TypeId × Value → H) : ∃ places, DataW.whole enc Tryz.prog ((laidWorld os).forCall (fun _ _ => 0) ⟨#[], #[.slice none 0 0, .int .i64 0], []⟩).memory Tryz.f3.params.toList Rows.noteWritesSpec.vars false (#[.slice none 0 0, .int .i64 0] : Array Value).toList 8 = some ([.nil, .lit (.int .i64 0)], [], places) :=
 ⟨[], by kernel_rfl⟩
set_option maxRecDepth 100000 in
theorem lifted (os : Os) (started : os.Started) (H : Type) (enc : TypeId × Value → H) (F : Stop.Interp) :
  ReturnsInHanded {} Tryz.checked os 3 .any ((OpenSpec.ofChange Rows.noteWritesSpec).preRow enc Tryz.prog Tryz.f3 Rows.noteWritesRow.domain false Rows.noteWritesRow.laid) (((OpenSpec.ofChange Rows.noteWritesSpec).at F).post enc Tryz.prog Tryz.f3 false true false false) := by
 obtain ⟨places, hx⟩ := reads os enc
 refine returnsInHanded_of_row (C := Tryz.checked) (s := OpenSpec.ofChange Rows.noteWritesSpec) own started (by kernel_rfl) Tryz.func3
  (witness_row_atRef (enc := enc) (C := Tryz.checked) false (laidWorld os) #[.slice none 0 0, .int .i64 0] rfl (by kernel_rfl) (by kernel_rfl) (by kernel_rfl)
   (OpenSpec.preRow_of_cond 8 hx (by kernel_rfl) (fun k hk => by cases hk) (by kernel_rfl) (laid_met os _))) ?_
 intro W base args ds gs before hval0 hW _ _ hz0 hL hS _
 have hG : GOK W := gok_of_laid hL hS (size_of_shaped hS)
 have hval : ∀ (j : Nat) t v, Tryz.f3.params[j]? = some t → args[j]? = some v → Value.okWide Tryz.prog W .any base t v := hval0
 have hW' := hW
 obtain ⟨p, q, hA0, hV, rfl, _, _⟩ := hW
 have hA : DataW.TrodAll enc Tryz.prog W 0 (fun _ => true) true Tryz.f3.params.toList args.toList ds p := hA0
 rw [Tryz.params3] at hA hval
 obtain ⟨v0, vs0, d0, ds0, p0, q0, hargs, rfl, rfl, h0, r0⟩ := trodAll_cons hA
 obtain ⟨v1, vs1, d1, ds1, p1, q1, rfl, rfl, rfl, h1, r1⟩ := trodAll_cons r0
 have hz : XO.fit (DataW.weightsEach Tryz.prog (Tryz.f3.params.toList ++ (OpenSpec.ofChange Rows.noteWritesSpec).bare.plain.varTypes Tryz.prog) ((d0 :: d1 :: ds1) ++ gs)) := hz0
 rw [Tryz.params3] at hz
 obtain ⟨rfl, rfl, rfl⟩ := trodAll_nil r1
 obtain rfl : args = #[v0, v1] := by cases args; simp_all
 obtain ⟨rfl, rfl⟩ := trodVars_none hV
 have z0 := (XO.fit_app (show XO.fit (d0.weights Tryz.prog 22 ++ _) from hz)).1
 have hz := (XO.fit_app (show XO.fit (d0.weights Tryz.prog 22 ++ _) from hz)).2
 have lt0 : ∀ x ∈ p0, x.block < W.heap.size := by obtain ⟨m, hm⟩ := h0; exact DataW.trod_lt m _ _ _ hm
 obtain ⟨x0, A0, c0, rfl, l0, g0, w0⟩ := open_diags (hval 0 22 v0 rfl rfl) h0 z0
 have z1 := (XO.fit_app (show XO.fit (d1.weights Tryz.prog 3 ++ _) from hz)).1
 have hz := (XO.fit_app (show XO.fit (d1.weights Tryz.prog 3 ++ _) from hz)).2
 obtain ⟨a1, rfl, rfl, rfl, w1⟩ := open_int Tryz.underlying3 (hval 1 3 v1 rfl rfl) h1
 clear hA0 hval0
 refine (NB.noteWrites_calls x0 a1 A0 c0 W hG g0 l0 w0).mono ?_
 rintro e W' ⟨rfl, bel⟩
 exact ⟨_, rfl, _, _, _, [], _, [], hW', trodAll_mk1 (shut_bool Tryz.underlying4 _), (trodAll_cons_mk (Below.trod laidOut (by kernel_rfl) (of_decide_eq_true (by kernel_rfl)) h0 bel lt0) (trodAll_cons_mk (shut_int Tryz.underlying3 w1) trodAll_mk0)), rfl, bel.frame _, fun h => by cases h⟩
theorem said : Rows.NoteWritesSaid :=
 OpenClaim.holds_of_cond 3 Tryz.f3 rfl rfl rfl rfl rfl rfl rfl ⟨rfl, rfl, rfl, rfl, rfl⟩ rfl rfl rfl rfl rfl (by kernel_rfl) Tryz.func3 (by kernel_rfl)
  (of_decide_eq_true (by kernel_rfl)) (by unfold Func.isWrapper; first | (rw [if_pos (by decide +kernel)]; kernel_rfl) | (rw [if_neg (by decide +kernel)]; exact ⟨rfl, rfl⟩))
  (fun os started H enc _ F => by rw [OpenClaim.pre_eq_preRow]; exact lifted os started H enc F)
theorem plain (f : FuncId) (fn : Func) (hf : Tryz.pinned.checked.prog.funcNamed "caesura/caesuralaw27.NoteWrites" = some f) (hfn : Tryz.pinned.checked.prog.funcs[f]? = some fn) :
  true = Tryz.pinned.checked.prog.looks [] ∧ ∀ (j : Nat) t, fn.params[j]? = some t → Tryz.pinned.checked.prog.wantsStandIn t = false := by
 obtain rfl : f = 3 := Option.some.inj ((show Tryz.prog.funcNamed "caesura/caesuralaw27.NoteWrites" = some 3 by kernel_rfl).symm.trans hf) |>.symm
 obtain rfl : fn = Tryz.f3 := (Option.some.inj (Tryz.func3.symm.trans hfn)).symm
 refine ⟨by kernel_rfl, fun j t ht => ?_⟩
 rw [Tryz.params3] at ht
 have hm : t ∈ (#[22, 3] : Array TypeId) := Array.mem_of_getElem? ht
 simp only [List.mem_toArray, List.mem_cons, List.not_mem_nil, or_false] at hm
 rcases hm with rfl | rfl
 ·exact (show Tryz.prog.wantsStandIn 22 = false by kernel_rfl)
 ·exact (show Tryz.prog.wantsStandIn 3 = false by kernel_rfl)
theorem card : Rows.NoteWritesCardSaid :=
 Claim7.holds_tied_plain_at .later [] _ _ _ _ said (fun _ h => by cases h) (by kernel_rfl) (fun _ h => by cases h) noteWrites_row_tie rfl ⟨rfl, rfl⟩ (by kernel_rfl) rfl plain (by kernel_rfl)
end Go.Proofs.YtlenlhnpmblicaaGreatDoor.XA.noteWrites
namespace Go.Proofs.YtlenlhnpmblicaaGreatDoor
theorem noteWrites_card : Rows.NoteWritesCardSaid := XA.noteWrites.card
end Go.Proofs.YtlenlhnpmblicaaGreatDoor
end
