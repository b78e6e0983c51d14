-- Written by a program of this session (xprint) over the translation.
import Derived.Test.YtdkcdgfjjppidaaDoorXA0
import Derived.Test.YtdkcdgfjjppidaaDoorXA4
import Derived.Test.YtdkcdgfjjppidaaDoorXA5
namespace Go.Proofs.YtdkcdgfjjppidaaDoor.XA
open Go.RowKit Go.Proofs.YtdkcdgfjjppidaaDoorW.PrintWords Go.Proofs.YtdkcdgfjjppidaaDoorW.PrintLast Go.Proofs.YtdkcdgfjjppidaaDoorW.PrintMore
attribute [local go_sem] max2_int min2_int max_two min_two max_three min_three max_four min_four   -- for this text's walks alone
set_option linter.unusedVariables false
set_option linter.unusedSimpArgs false

/-! ### caesuraref04_number: function 26 -/
mutual
def caesuraref04_number.l0 : Nat → List Int → Int → Int → Int → Int → Option (Int × Int × Int)
  | 0, _, _, _, _, _ => none
  | k + 1, x0, x1, x7, x8, x9 => if x9 < (x0.length : Int) then (if 0 ≤ x9 then ((caesuraref04_digit.f k (rd x0 x9)).bind fun t173 => (if x9 = (wrap64 (x1 + 2)) then (if (rd x0 x9) = 123 then (caesuraref04_number.l0 k x0 x1 x7 x8 (wrap64 (x9 + 1))) else (some (0, x1, 6))) else (if (rd x0 x9) = 125 then (if x8 > 0 then (caesuraref04_number.j1 k x0 x1 x7 x8 x9 t173 (decide (x7 ≤ 1114111))) else (caesuraref04_number.j1 k x0 x1 x7 x8 x9 t173 false)) else (caesuraref04_number.j1 k x0 x1 x7 x8 x9 t173 false)))) else (none)) else (some (0, x1, 5))
def caesuraref04_number.j1 : Nat → List Int → Int → Int → Int → Int → Int → Bool → Option (Int × Int × Int)
  | 0, _, _, _, _, _, _, _ => none
  | k + 1, x0, x1, x7, x8, x9, x10, x41 => if x41 = true then (some (x7, wrap64 (x9 + 1), 0)) else (if x10 < 0 then (some (0, x1, 6)) else (if x8 = 6 then (some (0, x1, 6)) else (caesuraref04_number.l0 k x0 x1 (wrap64 ((wrap64 (x7 * 16)) + x10)) (wrap64 (x8 + 1)) (wrap64 (x9 + 1)))))
end
def caesuraref04_number.f (k : Nat) (l0 : List Int) (a1 : Int) : Option (Int × Int × Int) := caesuraref04_number.l0 k l0 a1 0 0 (wrap64 (a1 + 2))
theorem caesuraref04_number.mono_l : ∀ k, (∀ y0 y1 y2 y3 y4, LeO (caesuraref04_number.l0 k y0 y1 y2 y3 y4) (caesuraref04_number.l0 (k + 1) y0 y1 y2 y3 y4)) ∧ (∀ y0 y1 y2 y3 y4 y5 y6, LeO (caesuraref04_number.j1 k y0 y1 y2 y3 y4 y5 y6) (caesuraref04_number.j1 (k + 1) y0 y1 y2 y3 y4 y5 y6))
  | 0 => ⟨fun _ _ _ _ _ r h => by simp [caesuraref04_number.l0] at h, fun _ _ _ _ _ _ _ r h => by simp [caesuraref04_number.j1] at h⟩
  | k + 1 => by
    obtain ⟨ih0, ih1⟩ := caesuraref04_number.mono_l k
    refine ⟨?_, ?_⟩
    · intro y0 y1 y2 y3 y4
      unfold caesuraref04_number.l0
      repeat' first
      | (with_reducible exact ih0 _ _ _ _ _)
      | (with_reducible exact ih1 _ _ _ _ _ _ _)
      | (with_reducible exact caesuraref04_digit.mono _ _)
      | (with_reducible exact LeO.refl _)
      | (with_reducible exact LeO.none _)
      | (with_reducible refine LeO.ite ?_ ?_)
      | (with_reducible refine LeO.bind ?_ (fun _ => ?_))
      | exact ih0 _ _ _ _ _
      | exact ih1 _ _ _ _ _ _ _
      | exact caesuraref04_digit.mono _ _
      | exact LeO.none _
      | refine LeO.ite ?_ ?_
      | refine LeO.bind ?_ (fun _ => ?_)
    · intro y0 y1 y2 y3 y4 y5 y6
      unfold caesuraref04_number.j1
      repeat' first
      | (with_reducible exact ih0 _ _ _ _ _)
      | (with_reducible exact ih1 _ _ _ _ _ _ _)
      | (with_reducible exact caesuraref04_digit.mono _ _)
      | (with_reducible exact LeO.refl _)
      | (with_reducible exact LeO.none _)
      | (with_reducible refine LeO.ite ?_ ?_)
      | (with_reducible refine LeO.bind ?_ (fun _ => ?_))
      | exact ih0 _ _ _ _ _
      | exact ih1 _ _ _ _ _ _ _
      | exact caesuraref04_digit.mono _ _
      | exact LeO.none _
      | refine LeO.ite ?_ ?_
      | refine LeO.bind ?_ (fun _ => ?_)
theorem caesuraref04_number.mono : ∀ a0 a1 k, LeO (caesuraref04_number.f k a0 a1) (caesuraref04_number.f (k + 1) a0 a1) := by
  intro a0 a1 k
  obtain ⟨ih0, ih1⟩ := caesuraref04_number.mono_l k
  unfold caesuraref04_number.f
  repeat' first
      | (with_reducible exact ih0 _ _ _ _ _)
      | (with_reducible exact ih1 _ _ _ _ _ _ _)
      | (with_reducible exact caesuraref04_digit.mono _ _)
      | (with_reducible exact LeO.refl _)
      | (with_reducible exact LeO.none _)
      | (with_reducible refine LeO.ite ?_ ?_)
      | (with_reducible refine LeO.bind ?_ (fun _ => ?_))
      | exact ih0 _ _ _ _ _
      | exact ih1 _ _ _ _ _ _ _
      | exact caesuraref04_digit.mono _ _
      | exact LeO.none _
      | refine LeO.ite ?_ ?_
      | refine LeO.bind ?_ (fun _ => ?_)
set_option maxHeartbeats 8000000 in
set_option maxRecDepth 100000 in
theorem caesuraref04_number.calls (k : Nat) (A0 : Option Addr) (c0 : Nat) (l0 : List Int) (a1 : Int) (r1 : Int) (r2 : Int) (r3 : Int) (w : World) (hr0 : Kd.C (Kd.int .i64) w A0 l0.length l0) (hc0 : l0.length ≤ c0) (h : caesuraref04_number.f k l0 a1 = some (r1, r2, r3)) :
    Calls Tryd.prog 26 #[.slice A0 l0.length c0, .int .i64 a1] w fun e w' => e = .returned (.tuple #[.int .i64 r1, .int .i64 r2, .int .i64 r3]) ∧ Drawn0 w w' := by
  have HR0 := Aside0.mk hr0
  have HC0 := Aside0.mk hc0
  clear hr0 hc0
  have H : (caesuraref04_number.l0 k l0 a1 0 0 (wrap64 (a1 + 2))) = some (r1, r2, r3) := h
  clear h
  have H' := Aside0.mk H
  clear H
  go_enter Tryd.func26, Tryd.ntmps26
  go_wp2
  go_loopg [7, 8, 9] k (fun kq v7 v8 v9 w' => ∃ (x7_1 : Int) (x8_1 : Int) (x9_1 : Int), v7 = .int .i64 x7_1 ∧ v8 = .int .i64 x8_1 ∧ v9 = .int .i64 x9_1 ∧ Aside0 (caesuraref04_number.l0 kq l0 a1 x7_1 x8_1 x9_1 = some (r1, r2, r3)) ∧ Aside0 (kq ≤ k) ∧ Drawn0 w w')
  case atStart => exact ⟨(0), (0), (wrap64 (a1 + 2)), (by first | rfl | (simp; done) | (simp [*]; done)), (by first | rfl | (simp; done) | (simp [*]; done)), (by first | rfl | (simp; done) | (simp [*]; done)), H', ⟨Nat.le_refl _⟩, by repeat (first | exact Drawn0.refl _ | apply Drawn0.step)⟩
  case round =>
    clear H'
    try clear c2
    try clear p2
    obtain ⟨x7_1, x8_1, x9_1, rfl, rfl, rfl, HA, HK1, ⟨m1, rfl⟩⟩ := hrel
    cases gk with
    | zero => exact absurd HA.out (by simp [caesuraref04_number.l0])
    | succ k1 =>
      have H := HA.out
      clear HA
      simp only [caesuraref04_number.l0] at H
      by_cases c3 : x9_1 < (l0.length : Int)
      · rw [if_pos c3] at H
        have c3b0 : decide (x9_1 < (l0.length : Int)) = true := decide_eq_true c3
        clear c3
        by_cases c4 : 0 ≤ x9_1
        · rw [if_pos c4] at H
          have c4b0 : decide (0 ≤ x9_1) = true := decide_eq_true c4
          clear c4
          replace H := Option.bind_eq_some_iff.mp H
          obtain ⟨t173, A50, H⟩ := H
          replace H : (if x9_1 = (wrap64 (a1 + 2)) then (if (rd l0 x9_1) = 123 then (caesuraref04_number.l0 k1 l0 a1 x7_1 x8_1 (wrap64 (x9_1 + 1))) else (some (0, a1, 6))) else (if (rd l0 x9_1) = 125 then (if x8_1 > 0 then (caesuraref04_number.j1 k1 l0 a1 x7_1 x8_1 x9_1 t173 (decide (x7_1 ≤ 1114111))) else (caesuraref04_number.j1 k1 l0 a1 x7_1 x8_1 x9_1 t173 false)) else (caesuraref04_number.j1 k1 l0 a1 x7_1 x8_1 x9_1 t173 false))) = some (r1, r2, r3) := H
          have A5 := Aside0.mk A50
          clear A50
          by_cases c6 : x9_1 = (wrap64 (a1 + 2))
          · rw [if_pos c6] at H
            have c6b0 : (x9_1 == (wrap64 (a1 + 2))) = true := beq_iff_eq.mpr c6
            have c6b1 : (x9_1 != (wrap64 (a1 + 2))) = false := bne_eq_false_iff_eq.mpr c6
            clear c6
            by_cases c7 : (rd l0 x9_1) = 123
            · rw [if_pos c7] at H
              have c7b0 : ((rd l0 x9_1) == 123) = true := beq_iff_eq.mpr c7
              have c7b1 : ((rd l0 x9_1) != 123) = false := bne_eq_false_iff_eq.mpr c7
              clear c7
              have H' := Aside0.mk H
              clear H
              have p172 : 0 ≤ (x9_1 : Int) := of_decide_eq_true (by first | (with_reducible assumption) | assumption)
              have q172 : x9_1 < (l0.length : Int) := of_decide_eq_true (by first | (with_reducible assumption) | assumption)
              obtain ⟨ad172, e172, hx172_0⟩ := Kd.at_int HR0.out x9_1 p172 q172
              cases e172
              replace p172 := eq_true p172
              replace q172 := eq_true q172
              go_wp2_with (first | ((with_reducible refine gate_callee (f := 31) rfl ?_); refine goesL_ (some 23) rfl rfl Tryd.func31 (by kernel_rfl) rfl #[.int .i64 (rd l0 x9_1)] rfl (by (try simp only [List.map_toArray, List.map_cons, List.map_nil]); first | done | rfl | (simp only [List.length_drop, List.length_take]; rfl)) ?_; (with_reducible refine (caesuraref04_digit.calls k1 (rd l0 x9_1) t173 _ A5.out).mono ?_); rintro e w' ⟨rfl, ⟨nd, rfl⟩⟩; refine ⟨_, rfl, ?_⟩; have p174 : 0 ≤ (x9_1 : Int) := of_decide_eq_true (by first | (with_reducible assumption) | assumption); have q174 : x9_1 < (l0.length : Int) := of_decide_eq_true (by first | (with_reducible assumption) | assumption); obtain ⟨ad174, e174, hx174_0⟩ := Kd.at_int HR0.out x9_1 p174 q174; obtain rfl : ad172 = ad174 := (by injection e174); replace p174 := eq_true p174; replace q174 := eq_true q174))
              go_roundg k1
              case measure => have := HK1.out; omega
              case rel => exact ⟨(x7_1), (x8_1), (wrap64 (x9_1 + 1)), (by first | rfl | (simp; done) | (simp [*]; done)), (by first | rfl | (simp; done) | (simp [*]; done)), (by first | rfl | (simp; done) | (simp [*]; done)), H', ⟨by have := HK1.out; omega⟩, by repeat (first | exact Drawn0.refl _ | apply Drawn0.step)⟩
            · rw [if_neg c7] at H
              have c7b0 : ((rd l0 x9_1) == 123) = false := beq_eq_false_iff_ne.mpr c7
              have c7b1 : ((rd l0 x9_1) != 123) = true := bne_iff_ne.mpr c7
              simp only [Option.some.injEq, Prod.mk.injEq] at H
              obtain ⟨rfl, rfl, rfl⟩ := H
              have p172 : 0 ≤ (x9_1 : Int) := of_decide_eq_true (by first | (with_reducible assumption) | assumption)
              have q172 : x9_1 < (l0.length : Int) := of_decide_eq_true (by first | (with_reducible assumption) | assumption)
              obtain ⟨ad172, e172, hx172_0⟩ := Kd.at_int HR0.out x9_1 p172 q172
              cases e172
              replace p172 := eq_true p172
              replace q172 := eq_true q172
              go_wp2_with (first | ((with_reducible refine gate_callee (f := 31) rfl ?_); refine goesL_ (some 23) rfl rfl Tryd.func31 (by kernel_rfl) rfl #[.int .i64 (rd l0 x9_1)] rfl (by (try simp only [List.map_toArray, List.map_cons, List.map_nil]); first | done | rfl | (simp only [List.length_drop, List.length_take]; rfl)) ?_; (with_reducible refine (caesuraref04_digit.calls k1 (rd l0 x9_1) t173 _ A5.out).mono ?_); rintro e w' ⟨rfl, ⟨nd, rfl⟩⟩; refine ⟨_, rfl, ?_⟩; have p174 : 0 ≤ (x9_1 : Int) := of_decide_eq_true (by first | (with_reducible assumption) | assumption); have q174 : x9_1 < (l0.length : Int) := of_decide_eq_true (by first | (with_reducible assumption) | assumption); obtain ⟨ad174, e174, hx174_0⟩ := Kd.at_int HR0.out x9_1 p174 q174; obtain rfl : ad172 = ad174 := (by injection e174); replace p174 := eq_true p174; replace q174 := eq_true q174))
              go_ret3
              exact ⟨by first | rfl | (simp; done) | (simp [*]; done), by repeat (first | exact Drawn0.refl _ | apply Drawn0.step)⟩
          · rw [if_neg c6] at H
            have c6b0 : (x9_1 == (wrap64 (a1 + 2))) = false := beq_eq_false_iff_ne.mpr c6
            have c6b1 : (x9_1 != (wrap64 (a1 + 2))) = true := bne_iff_ne.mpr c6
            have HC8 := Aside0.mk H
            clear H
            have p172 : 0 ≤ (x9_1 : Int) := of_decide_eq_true (by first | (with_reducible assumption) | assumption)
            have q172 : x9_1 < (l0.length : Int) := of_decide_eq_true (by first | (with_reducible assumption) | assumption)
            obtain ⟨ad172, e172, hx172_0⟩ := Kd.at_int HR0.out x9_1 p172 q172
            cases e172
            replace p172 := eq_true p172
            replace q172 := eq_true q172
            go_upto_region 10 with (first | ((with_reducible refine gate_callee (f := 31) rfl ?_); refine goesL_ (some 23) rfl rfl Tryd.func31 (by kernel_rfl) rfl #[.int .i64 (rd l0 x9_1)] rfl (by (try simp only [List.map_toArray, List.map_cons, List.map_nil]); first | done | rfl | (simp only [List.length_drop, List.length_take]; rfl)) ?_; (with_reducible refine (caesuraref04_digit.calls k1 (rd l0 x9_1) t173 _ A5.out).mono ?_); rintro e w' ⟨rfl, ⟨nd, rfl⟩⟩; refine ⟨_, rfl, ?_⟩))
            (try simp only [Act.put, List.setIfInBounds_toArray, List.set_cons_zero, List.set_cons_succ])
            go_cut [41] (fun v41 wc => ∃ (kq : Nat) (x41_7 : Bool), v41 = .bool x41_7 ∧ Aside0 (caesuraref04_number.j1 kq l0 a1 x7_1 x8_1 x9_1 t173 x41_7 = some (r1, r2, r3)) ∧ Aside0 (kq ≤ k1) ∧ Drawn0 w wc)
            case first =>
              have H := HC8.out
              clear HC8
              by_cases c9 : (rd l0 x9_1) = 125
              · rw [if_pos c9] at H
                have c9b0 : ((rd l0 x9_1) == 125) = true := beq_iff_eq.mpr c9
                have c9b1 : ((rd l0 x9_1) != 125) = false := bne_eq_false_iff_eq.mpr c9
                clear c9
                (first | rw [c9b0] | (simp only [i64_w, i32_w]; rw [c9b0]) | skip)
                by_cases c10 : x8_1 > 0
                · rw [if_pos c10] at H
                  have c10b0 : decide (0 < x8_1) = true := decide_eq_true c10
                  clear c10
                  have H' := Aside0.mk H
                  clear H
                  have p175 : 0 ≤ (x9_1 : Int) := of_decide_eq_true (by first | (with_reducible assumption) | assumption)
                  have q175 : x9_1 < (l0.length : Int) := of_decide_eq_true (by first | (with_reducible assumption) | assumption)
                  obtain ⟨ad175, e175, hx175_0⟩ := Kd.at_int HR0.out x9_1 p175 q175
                  obtain rfl : ad172 = ad175 := (by injection e175)
                  replace p175 := eq_true p175
                  replace q175 := eq_true q175
                  go_wp2
                  go_meet
                  case rel => exact ⟨_, (decide (x7_1 ≤ 1114111)), (by first | rfl | (simp; done) | (simp [*]; done)), H', ⟨by have := HK1.out; first | omega | exact Nat.le_refl _⟩, by repeat (first | exact Drawn0.refl _ | apply Drawn0.step)⟩
                · rw [if_neg c10] at H
                  have c10b0 : decide (0 < x8_1) = false := decide_eq_false c10
                  clear c10
                  have H' := Aside0.mk H
                  clear H
                  have p175 : 0 ≤ (x9_1 : Int) := of_decide_eq_true (by first | (with_reducible assumption) | assumption)
                  have q175 : x9_1 < (l0.length : Int) := of_decide_eq_true (by first | (with_reducible assumption) | assumption)
                  obtain ⟨ad175, e175, hx175_0⟩ := Kd.at_int HR0.out x9_1 p175 q175
                  obtain rfl : ad172 = ad175 := (by injection e175)
                  replace p175 := eq_true p175
                  replace q175 := eq_true q175
                  go_wp2
                  go_meet
                  case rel => exact ⟨_, (false), (by first | rfl | (simp; done) | (simp [*]; done)), H', ⟨by have := HK1.out; first | omega | exact Nat.le_refl _⟩, by repeat (first | exact Drawn0.refl _ | apply Drawn0.step)⟩
              · rw [if_neg c9] at H
                have c9b0 : ((rd l0 x9_1) == 125) = false := beq_eq_false_iff_ne.mpr c9
                have c9b1 : ((rd l0 x9_1) != 125) = true := bne_iff_ne.mpr c9
                (first | rw [c9b0] | (simp only [i64_w, i32_w]; rw [c9b0]) | skip)
                have H' := Aside0.mk H
                clear H
                have p175 : 0 ≤ (x9_1 : Int) := of_decide_eq_true (by first | (with_reducible assumption) | assumption)
                have q175 : x9_1 < (l0.length : Int) := of_decide_eq_true (by first | (with_reducible assumption) | assumption)
                obtain ⟨ad175, e175, hx175_0⟩ := Kd.at_int HR0.out x9_1 p175 q175
                obtain rfl : ad172 = ad175 := (by injection e175)
                replace p175 := eq_true p175
                replace q175 := eq_true q175
                go_wp2
                go_meet
                case rel => exact ⟨_, (false), (by first | rfl | (simp; done) | (simp [*]; done)), H', ⟨by have := HK1.out; first | omega | exact Nat.le_refl _⟩, by repeat (first | exact Drawn0.refl _ | apply Drawn0.step)⟩
            case rest =>
              clear HC8
              try clear c1
              try clear p1
              try clear q1
              try clear hx1
              try clear c2
              try clear p2
              try clear c3
              try clear c3b0
              try clear c4
              try clear c4b0
              try clear c6
              try clear c6b0
              try clear c6b1
              try clear p6
              try clear c7
              try clear c7b0
              try clear c7b1
              try clear c9
              try clear c9b0
              try clear c9b1
              try clear c10
              try clear c10b0
              try clear hx172_0
              try clear hx174_0
              try clear hx175_0
              try clear p172
              try clear p174
              try clear p175
              try clear p2
              try clear q172
              try clear q174
              try clear q175
              obtain ⟨kq, x41_7, rfl, HA, HJ7, ⟨mc7, rfl⟩⟩ := hcut
              cases kq with
              | zero => exact absurd HA.out (by simp [caesuraref04_number.j1])
              | succ kj7 =>
                have H := HA.out
                clear HA
                simp only [caesuraref04_number.j1] at H
                by_cases c11 : x41_7 = true
                · subst c11
                  have H1 : (some (x7_1, wrap64 (x9_1 + 1), 0)) = some (r1, r2, r3) := by rw [if_pos rfl] at H; exact H
                  clear H
                  have H := H1
                  clear H1
                  simp only [Option.some.injEq, Prod.mk.injEq] at H
                  obtain ⟨rfl, rfl, rfl⟩ := H
                  go_wp2
                  go_ret3
                  exact ⟨by first | rfl | (simp; done) | (simp [*]; done), by repeat (first | exact Drawn0.refl _ | apply Drawn0.step)⟩
                · replace c11 := Bool.eq_false_iff.mpr c11
                  subst c11
                  have H1 : (if t173 < 0 then (some (0, a1, 6)) else (if x8_1 = 6 then (some (0, a1, 6)) else (caesuraref04_number.l0 kj7 l0 a1 (wrap64 ((wrap64 (x7_1 * 16)) + t173)) (wrap64 (x8_1 + 1)) (wrap64 (x9_1 + 1))))) = some (r1, r2, r3) := by rw [if_neg (show ¬ (false = true) by decide)] at H; exact H
                  clear H
                  have H := H1
                  clear H1
                  by_cases c12 : t173 < 0
                  · rw [if_pos c12] at H
                    have c12b0 : decide (t173 < 0) = true := decide_eq_true c12
                    clear c12
                    simp only [Option.some.injEq, Prod.mk.injEq] at H
                    obtain ⟨rfl, rfl, rfl⟩ := H
                    go_wp2
                    go_ret3
                    exact ⟨by first | rfl | (simp; done) | (simp [*]; done), by repeat (first | exact Drawn0.refl _ | apply Drawn0.step)⟩
                  · rw [if_neg c12] at H
                    have c12b0 : decide (t173 < 0) = false := decide_eq_false c12
                    clear c12
                    by_cases c13 : x8_1 = 6
                    · rw [if_pos c13] at H
                      have c13b0 : (x8_1 == 6) = true := beq_iff_eq.mpr c13
                      have c13b1 : (x8_1 != 6) = false := bne_eq_false_iff_eq.mpr c13
                      clear c13
                      simp only [Option.some.injEq, Prod.mk.injEq] at H
                      obtain ⟨rfl, rfl, rfl⟩ := H
                      go_wp2
                      go_ret3
                      exact ⟨by first | rfl | (simp; done) | (simp [*]; done), by repeat (first | exact Drawn0.refl _ | apply Drawn0.step)⟩
                    · rw [if_neg c13] at H
                      have c13b0 : (x8_1 == 6) = false := beq_eq_false_iff_ne.mpr c13
                      have c13b1 : (x8_1 != 6) = true := bne_iff_ne.mpr c13
                      have H' := Aside0.mk H
                      clear H
                      go_wp2
                      go_roundg kj7
                      case measure => have := HK1.out; have := HJ7.out; omega
                      case rel => exact ⟨(wrap64 ((wrap64 (x7_1 * 16)) + t173)), (wrap64 (x8_1 + 1)), (wrap64 (x9_1 + 1)), (by first | rfl | (simp; done) | (simp [*]; done)), (by first | rfl | (simp; done) | (simp [*]; done)), (by first | rfl | (simp; done) | (simp [*]; done)), H', ⟨by have := HK1.out; have := HJ7.out; omega⟩, by repeat (first | exact Drawn0.refl _ | apply Drawn0.step)⟩
        · rw [if_neg c4] at H
          exact absurd H (by simp)
      · rw [if_neg c3] at H
        have c3b0 : decide (x9_1 < (l0.length : Int)) = false := decide_eq_false c3
        clear c3
        simp only [Option.some.injEq, Prod.mk.injEq] at H
        obtain ⟨rfl, rfl, rfl⟩ := H
        go_wp2
        go_ret3
        exact ⟨by first | rfl | (simp; done) | (simp [*]; done), by repeat (first | exact Drawn0.refl _ | apply Drawn0.step)⟩

/-! ### caesuraref04_Read: function 16 -/
mutual
def caesuraref04_Read.j0 : Nat → List Int → Int → Bool → Option (Int × Int × Int)
  | 0, _, _, _ => none
  | k + 1, x0, x1, x15 => if x15 = true then (some (0, x1, 1)) else (if x1 = (x0.length : Int) then (caesuraref04_Read.j1 k x0 x1 true) else (if 0 ≤ x1 then (if x1 < (x0.length : Int) then (if (rd x0 x1) = 92 then (caesuraref04_Read.j1 k x0 x1 ((wrap64 (x1 + 1)) == (x0.length : Int))) else (caesuraref04_Read.j1 k x0 x1 false)) else (none)) else (none)))
def caesuraref04_Read.j1 : Nat → List Int → Int → Bool → Option (Int × Int × Int)
  | 0, _, _, _ => none
  | k + 1, x0, x1, x34 => if x34 = true then (some (0, x1, 5)) else (if 0 ≤ x1 then (if x1 < (x0.length : Int) then (if (rd x0 x1) = 92 then (if 0 ≤ (wrap64 (x1 + 1)) then (if (wrap64 (x1 + 1)) < (x0.length : Int) then (if (rd x0 (wrap64 (x1 + 1))) = 110 then (some (10, wrap64 (x1 + 2), 0)) else (if (rd x0 (wrap64 (x1 + 1))) = 116 then (some (9, wrap64 (x1 + 2), 0)) else (if (rd x0 (wrap64 (x1 + 1))) = 117 then ((caesuraref04_number.f k x0 x1).bind fun bt180 => (some (bt180.1, bt180.2.1, bt180.2.2))) else (if (rd x0 (wrap64 (x1 + 1))) ≥ 33 then (if (rd x0 (wrap64 (x1 + 1))) ≤ 126 then ((caesuraref04_Plain.f (rd x0 (wrap64 (x1 + 1)))).bind fun t183 => (if t183 = true then (some (0, x1, 6)) else (some (rd x0 (wrap64 (x1 + 1)), wrap64 (x1 + 2), 0)))) else (some (0, x1, 6))) else (some (0, x1, 6)))))) else (none)) else (none)) else (some (rd x0 x1, wrap64 (x1 + 1), 0))) else (none)) else (none))
end
def caesuraref04_Read.f (k : Nat) (l0 : List Int) (a1 : Int) : Option (Int × Int × Int) := if a1 < 0 then (caesuraref04_Read.j0 k l0 a1 true) else (caesuraref04_Read.j0 k l0 a1 (decide (a1 > (l0.length : Int))))
theorem caesuraref04_Read.mono_l : ∀ k, (∀ y0 y1 y2, LeO (caesuraref04_Read.j0 k y0 y1 y2) (caesuraref04_Read.j0 (k + 1) y0 y1 y2)) ∧ (∀ y0 y1 y2, LeO (caesuraref04_Read.j1 k y0 y1 y2) (caesuraref04_Read.j1 (k + 1) y0 y1 y2))
  | 0 => ⟨fun _ _ _ r h => by simp [caesuraref04_Read.j0] at h, fun _ _ _ r h => by simp [caesuraref04_Read.j1] at h⟩
  | k + 1 => by
    obtain ⟨ih0, ih1⟩ := caesuraref04_Read.mono_l k
    refine ⟨?_, ?_⟩
    · intro y0 y1 y2
      unfold caesuraref04_Read.j0
      repeat' first
      | (with_reducible exact ih0 _ _ _)
      | (with_reducible exact ih1 _ _ _)
      | (with_reducible exact caesuraref04_number.mono _ _ _)
      | (with_reducible exact LeO.refl _)
      | (with_reducible exact LeO.none _)
      | (with_reducible refine LeO.ite ?_ ?_)
      | (with_reducible refine LeO.bind ?_ (fun _ => ?_))
      | exact ih0 _ _ _
      | exact ih1 _ _ _
      | exact caesuraref04_number.mono _ _ _
      | exact LeO.none _
      | refine LeO.ite ?_ ?_
      | refine LeO.bind ?_ (fun _ => ?_)
    · intro y0 y1 y2
      unfold caesuraref04_Read.j1
      repeat' first
      | (with_reducible exact ih0 _ _ _)
      | (with_reducible exact ih1 _ _ _)
      | (with_reducible exact caesuraref04_number.mono _ _ _)
      | (with_reducible exact LeO.refl _)
      | (with_reducible exact LeO.none _)
      | (with_reducible refine LeO.ite ?_ ?_)
      | (with_reducible refine LeO.bind ?_ (fun _ => ?_))
      | exact ih0 _ _ _
      | exact ih1 _ _ _
      | exact caesuraref04_number.mono _ _ _
      | exact LeO.none _
      | refine LeO.ite ?_ ?_
      | refine LeO.bind ?_ (fun _ => ?_)
theorem caesuraref04_Read.mono : ∀ a0 a1 k, LeO (caesuraref04_Read.f k a0 a1) (caesuraref04_Read.f (k + 1) a0 a1) := by
  intro a0 a1 k
  obtain ⟨ih0, ih1⟩ := caesuraref04_Read.mono_l k
  unfold caesuraref04_Read.f
  repeat' first
      | (with_reducible exact ih0 _ _ _)
      | (with_reducible exact ih1 _ _ _)
      | (with_reducible exact caesuraref04_number.mono _ _ _)
      | (with_reducible exact LeO.refl _)
      | (with_reducible exact LeO.none _)
      | (with_reducible refine LeO.ite ?_ ?_)
      | (with_reducible refine LeO.bind ?_ (fun _ => ?_))
      | exact ih0 _ _ _
      | exact ih1 _ _ _
      | exact caesuraref04_number.mono _ _ _
      | exact LeO.none _
      | refine LeO.ite ?_ ?_
      | refine LeO.bind ?_ (fun _ => ?_)
set_option maxHeartbeats 8000000 in
set_option maxRecDepth 100000 in
theorem caesuraref04_Read.calls (k : Nat) (A0 : Option Addr) (c0 : Nat) (l0 : List Int) (a1 : Int) (r1 : Int) (r2 : Int) (r3 : Int) (w : World) (hr0 : Kd.C (Kd.int .i64) w A0 l0.length l0) (hc0 : l0.length ≤ c0) (h : caesuraref04_Read.f k l0 a1 = some (r1, r2, r3)) :
    Calls Tryd.prog 16 #[.slice A0 l0.length c0, .int .i64 a1] w fun e w' => e = .returned (.tuple #[.int .i64 r1, .int .i64 r2, .int .i64 r3]) ∧ Drawn0 w w' := by
  have HR0 := Aside0.mk hr0
  have HC0 := Aside0.mk hc0
  clear hr0 hc0
  have H : (if a1 < 0 then (caesuraref04_Read.j0 k l0 a1 true) else (caesuraref04_Read.j0 k l0 a1 (decide (a1 > (l0.length : Int))))) = some (r1, r2, r3) := h
  clear h
  have HC3 := Aside0.mk H
  clear H
  go_enter Tryd.func16, Tryd.ntmps16
  go_upto_region 1 with (fail)
  go_cut [15] (fun v15 wc => ∃ (kq : Nat) (x15_2 : Bool), v15 = .bool x15_2 ∧ Aside0 (caesuraref04_Read.j0 kq l0 a1 x15_2 = some (r1, r2, r3)) ∧ Aside0 (kq ≤ k) ∧ Drawn0 w wc)
  case first =>
    have H := HC3.out
    clear HC3
    by_cases c4 : a1 < 0
    · rw [if_pos c4] at H
      have c4b0 : decide (a1 < 0) = true := decide_eq_true c4
      clear c4
      (first | rw [c4b0] | (simp only [i64_w, i32_w]; rw [c4b0]) | skip)
      have H' := Aside0.mk H
      clear H
      go_wp2
      go_meet
      case rel => exact ⟨_, (true), (by first | rfl | (simp; done) | (simp [*]; done)), H', ⟨by first | omega | exact Nat.le_refl _⟩, by repeat (first | exact Drawn0.refl _ | apply Drawn0.step)⟩
    · rw [if_neg c4] at H
      have c4b0 : decide (a1 < 0) = false := decide_eq_false c4
      clear c4
      (first | rw [c4b0] | (simp only [i64_w, i32_w]; rw [c4b0]) | skip)
      have H' := Aside0.mk H
      clear H
      go_wp2
      go_meet
      case rel => exact ⟨_, (decide (a1 > (l0.length : Int))), (by first | rfl | (simp; done) | (simp [*]; done)), H', ⟨by first | omega | exact Nat.le_refl _⟩, by repeat (first | exact Drawn0.refl _ | apply Drawn0.step)⟩
  case rest =>
    clear HC3
    try clear c1
    try clear p2
    try clear c4
    try clear c4b0
    obtain ⟨kq, x15_2, rfl, HA, HJ2, ⟨mc2, rfl⟩⟩ := hcut
    cases kq with
    | zero => exact absurd HA.out (by simp [caesuraref04_Read.j0])
    | succ kj2 =>
      have H := HA.out
      clear HA
      simp only [caesuraref04_Read.j0] at H
      by_cases c5 : x15_2 = true
      · subst c5
        have H1 : (some (0, a1, 1)) = some (r1, r2, r3) := by rw [if_pos rfl] at H; exact H
        clear H
        have H := H1
        clear H1
        simp only [Option.some.injEq, Prod.mk.injEq] at H
        obtain ⟨rfl, rfl, rfl⟩ := H
        go_wp2
        go_ret3
        exact ⟨by first | rfl | (simp; done) | (simp [*]; done), by repeat (first | exact Drawn0.refl _ | apply Drawn0.step)⟩
      · replace c5 := Bool.eq_false_iff.mpr c5
        subst c5
        have H1 : (if a1 = (l0.length : Int) then (caesuraref04_Read.j1 kj2 l0 a1 true) else (if 0 ≤ a1 then (if a1 < (l0.length : Int) then (if (rd l0 a1) = 92 then (caesuraref04_Read.j1 kj2 l0 a1 ((wrap64 (a1 + 1)) == (l0.length : Int))) else (caesuraref04_Read.j1 kj2 l0 a1 false)) else (none)) else (none))) = some (r1, r2, r3) := by rw [if_neg (show ¬ (false = true) by decide)] at H; exact H
        clear H
        have H := H1
        clear H1
        have HC6 := Aside0.mk H
        clear H
        go_upto_region 3 with (fail)
        go_cut [34] (fun v34 wc => ∃ (kq : Nat) (x34_5 : Bool), v34 = .bool x34_5 ∧ Aside0 (caesuraref04_Read.j1 kq l0 a1 x34_5 = some (r1, r2, r3)) ∧ Aside0 (kq ≤ kj2) ∧ Drawn0 w wc)
        case first =>
          have H := HC6.out
          clear HC6
          by_cases c7 : a1 = (l0.length : Int)
          · rw [if_pos c7] at H
            have c7b0 : (a1 == (l0.length : Int)) = true := beq_iff_eq.mpr c7
            have c7b1 : (a1 != (l0.length : Int)) = false := bne_eq_false_iff_eq.mpr c7
            clear c7
            (first | rw [c7b0] | (simp only [i64_w, i32_w]; rw [c7b0]) | skip)
            have H' := Aside0.mk H
            clear H
            go_wp2
            go_meet
            case rel => exact ⟨_, (true), (by first | rfl | (simp; done) | (simp [*]; done)), H', ⟨by have := HJ2.out; first | omega | exact Nat.le_refl _⟩, by repeat (first | exact Drawn0.refl _ | apply Drawn0.step)⟩
          · rw [if_neg c7] at H
            have c7b0 : (a1 == (l0.length : Int)) = false := beq_eq_false_iff_ne.mpr c7
            have c7b1 : (a1 != (l0.length : Int)) = true := bne_iff_ne.mpr c7
            (first | rw [c7b0] | (simp only [i64_w, i32_w]; rw [c7b0]) | skip)
            by_cases c8 : 0 ≤ a1
            · rw [if_pos c8] at H
              have c8b0 : decide (0 ≤ a1) = true := decide_eq_true c8
              clear c8
              by_cases c9 : a1 < (l0.length : Int)
              · rw [if_pos c9] at H
                have c9b0 : decide (a1 < (l0.length : Int)) = true := decide_eq_true c9
                clear c9
                by_cases c10 : (rd l0 a1) = 92
                · rw [if_pos c10] at H
                  have c10b0 : ((rd l0 a1) == 92) = true := beq_iff_eq.mpr c10
                  have c10b1 : ((rd l0 a1) != 92) = false := bne_eq_false_iff_eq.mpr c10
                  clear c10
                  have H' := Aside0.mk H
                  clear H
                  have p176 : 0 ≤ (a1 : Int) := of_decide_eq_true (by first | (with_reducible assumption) | assumption)
                  have q176 : a1 < (l0.length : Int) := of_decide_eq_true (by first | (with_reducible assumption) | assumption)
                  obtain ⟨ad176, e176, hx176_0⟩ := Kd.at_int HR0.out a1 p176 q176
                  cases e176
                  replace p176 := eq_true p176
                  replace q176 := eq_true q176
                  go_wp2
                  go_meet
                  case rel => exact ⟨_, (((wrap64 (a1 + 1)) == (l0.length : Int))), (by first | rfl | (simp; done) | (simp [*]; done)), H', ⟨by have := HJ2.out; first | omega | exact Nat.le_refl _⟩, by repeat (first | exact Drawn0.refl _ | apply Drawn0.step)⟩
                · rw [if_neg c10] at H
                  have c10b0 : ((rd l0 a1) == 92) = false := beq_eq_false_iff_ne.mpr c10
                  have c10b1 : ((rd l0 a1) != 92) = true := bne_iff_ne.mpr c10
                  have H' := Aside0.mk H
                  clear H
                  have p176 : 0 ≤ (a1 : Int) := of_decide_eq_true (by first | (with_reducible assumption) | assumption)
                  have q176 : a1 < (l0.length : Int) := of_decide_eq_true (by first | (with_reducible assumption) | assumption)
                  obtain ⟨ad176, e176, hx176_0⟩ := Kd.at_int HR0.out a1 p176 q176
                  cases e176
                  replace p176 := eq_true p176
                  replace q176 := eq_true q176
                  go_wp2
                  go_meet
                  case rel => exact ⟨_, (false), (by first | rfl | (simp; done) | (simp [*]; done)), H', ⟨by have := HJ2.out; first | omega | exact Nat.le_refl _⟩, by repeat (first | exact Drawn0.refl _ | apply Drawn0.step)⟩
              · rw [if_neg c9] at H
                exact absurd H (by simp)
            · rw [if_neg c8] at H
              exact absurd H (by simp)
        case rest =>
          clear HC6
          try clear c1
          try clear p1
          try clear q1
          try clear hx1
          try clear c2
          try clear p2
          try clear c4
          try clear c4b0
          try clear c5
          try clear p6
          try clear c7
          try clear c7b0
          try clear c7b1
          try clear c8
          try clear c8b0
          try clear c9
          try clear c9b0
          try clear c10
          try clear c10b0
          try clear c10b1
          try clear hx176_0
          try clear p176
          try clear p2
          try clear q176
          obtain ⟨kq, x34_5, rfl, HA, HJ5, ⟨mc5, rfl⟩⟩ := hcut
          cases kq with
          | zero => exact absurd HA.out (by simp [caesuraref04_Read.j1])
          | succ kj5 =>
            have H := HA.out
            clear HA
            simp only [caesuraref04_Read.j1] at H
            by_cases c11 : x34_5 = true
            · subst c11
              have H1 : (some (0, a1, 5)) = some (r1, r2, r3) := by rw [if_pos rfl] at H; exact H
              clear H
              have H := H1
              clear H1
              simp only [Option.some.injEq, Prod.mk.injEq] at H
              obtain ⟨rfl, rfl, rfl⟩ := H
              go_wp2
              go_ret3
              exact ⟨by first | rfl | (simp; done) | (simp [*]; done), by repeat (first | exact Drawn0.refl _ | apply Drawn0.step)⟩
            · replace c11 := Bool.eq_false_iff.mpr c11
              subst c11
              have H1 : (if 0 ≤ a1 then (if a1 < (l0.length : Int) then (if (rd l0 a1) = 92 then (if 0 ≤ (wrap64 (a1 + 1)) then (if (wrap64 (a1 + 1)) < (l0.length : Int) then (if (rd l0 (wrap64 (a1 + 1))) = 110 then (some (10, wrap64 (a1 + 2), 0)) else (if (rd l0 (wrap64 (a1 + 1))) = 116 then (some (9, wrap64 (a1 + 2), 0)) else (if (rd l0 (wrap64 (a1 + 1))) = 117 then ((caesuraref04_number.f kj5 l0 a1).bind fun bt180 => (some (bt180.1, bt180.2.1, bt180.2.2))) else (if (rd l0 (wrap64 (a1 + 1))) ≥ 33 then (if (rd l0 (wrap64 (a1 + 1))) ≤ 126 then ((caesuraref04_Plain.f (rd l0 (wrap64 (a1 + 1)))).bind fun t183 => (if t183 = true then (some (0, a1, 6)) else (some (rd l0 (wrap64 (a1 + 1)), wrap64 (a1 + 2), 0)))) else (some (0, a1, 6))) else (some (0, a1, 6)))))) else (none)) else (none)) else (some (rd l0 a1, wrap64 (a1 + 1), 0))) else (none)) else (none)) = some (r1, r2, r3) := by rw [if_neg (show ¬ (false = true) by decide)] at H; exact H
              clear H
              have H := H1
              clear H1
              by_cases c12 : 0 ≤ a1
              · rw [if_pos c12] at H
                have c12b0 : decide (0 ≤ a1) = true := decide_eq_true c12
                clear c12
                by_cases c13 : a1 < (l0.length : Int)
                · rw [if_pos c13] at H
                  have c13b0 : decide (a1 < (l0.length : Int)) = true := decide_eq_true c13
                  clear c13
                  by_cases c14 : (rd l0 a1) = 92
                  · rw [if_pos c14] at H
                    have c14b0 : ((rd l0 a1) == 92) = true := beq_iff_eq.mpr c14
                    have c14b1 : ((rd l0 a1) != 92) = false := bne_eq_false_iff_eq.mpr c14
                    clear c14
                    obtain ⟨ji15, hji15⟩ : ∃ j_ : Int, (wrap64 (a1 + 1)) = j_ := ⟨_, rfl⟩
                    replace H : (if 0 ≤ (ji15) then (if (ji15) < (l0.length : Int) then (if (rd l0 (ji15)) = 110 then (some (10, wrap64 (a1 + 2), 0)) else (if (rd l0 (ji15)) = 116 then (some (9, wrap64 (a1 + 2), 0)) else (if (rd l0 (ji15)) = 117 then ((caesuraref04_number.f kj5 l0 a1).bind fun bt180 => (some (bt180.1, bt180.2.1, bt180.2.2))) else (if (rd l0 (ji15)) ≥ 33 then (if (rd l0 (ji15)) ≤ 126 then ((caesuraref04_Plain.f (rd l0 (ji15))).bind fun t183 => (if t183 = true then (some (0, a1, 6)) else (some (rd l0 (ji15), wrap64 (a1 + 2), 0)))) else (some (0, a1, 6))) else (some (0, a1, 6)))))) else (none)) else (none)) = some (r1, r2, r3) := by first | (rw [hji15] at H; exact H) | (simp only [hji15] at H ⊢; exact H)
                    have hji15w : (IntKind.i64.wrap (a1 + 1)) = ji15 := (i64_w _).trans hji15
                    by_cases c16 : 0 ≤ (ji15)
                    · rw [if_pos c16] at H
                      have c16b0 : decide (0 ≤ (ji15)) = true := decide_eq_true c16
                      clear c16
                      by_cases c17 : (ji15) < (l0.length : Int)
                      · rw [if_pos c17] at H
                        have c17b0 : decide ((ji15) < (l0.length : Int)) = true := decide_eq_true c17
                        clear c17
                        by_cases c18 : (rd l0 (ji15)) = 110
                        · rw [if_pos c18] at H
                          have c18b0 : ((rd l0 (ji15)) == 110) = true := beq_iff_eq.mpr c18
                          have c18b1 : ((rd l0 (ji15)) != 110) = false := bne_eq_false_iff_eq.mpr c18
                          clear c18
                          simp only [Option.some.injEq, Prod.mk.injEq] at H
                          obtain ⟨rfl, rfl, rfl⟩ := H
                          have p177 : 0 ≤ (a1 : Int) := of_decide_eq_true (by first | (with_reducible assumption) | assumption)
                          have q177 : a1 < (l0.length : Int) := of_decide_eq_true (by first | (with_reducible assumption) | assumption)
                          obtain ⟨ad177, e177, hx177_0⟩ := Kd.at_int HR0.out a1 p177 q177
                          cases e177
                          replace p177 := eq_true p177
                          replace q177 := eq_true q177
                          have p179 : 0 ≤ ((ji15) : Int) := of_decide_eq_true (by first | (with_reducible assumption) | assumption)
                          have q179 : (ji15) < (l0.length : Int) := of_decide_eq_true (by first | (with_reducible assumption) | assumption)
                          obtain ⟨ad179, e179, hx179_0⟩ := Kd.at_int HR0.out (ji15) p179 q179
                          obtain rfl : ad177 = ad179 := (by injection e179)
                          replace p179 := eq_true p179
                          replace q179 := eq_true q179
                          go_wp2
                          go_ret3
                          exact ⟨by first | rfl | (simp; done) | (simp only [← hji15] <;> (first | rfl | simp)) | (simp [*]; done), by repeat (first | exact Drawn0.refl _ | apply Drawn0.step)⟩
                        · rw [if_neg c18] at H
                          have c18b0 : ((rd l0 (ji15)) == 110) = false := beq_eq_false_iff_ne.mpr c18
                          have c18b1 : ((rd l0 (ji15)) != 110) = true := bne_iff_ne.mpr c18
                          by_cases c19 : (rd l0 (ji15)) = 116
                          · rw [if_pos c19] at H
                            have c19b0 : ((rd l0 (ji15)) == 116) = true := beq_iff_eq.mpr c19
                            have c19b1 : ((rd l0 (ji15)) != 116) = false := bne_eq_false_iff_eq.mpr c19
                            clear c19
                            simp only [Option.some.injEq, Prod.mk.injEq] at H
                            obtain ⟨rfl, rfl, rfl⟩ := H
                            have p177 : 0 ≤ (a1 : Int) := of_decide_eq_true (by first | (with_reducible assumption) | assumption)
                            have q177 : a1 < (l0.length : Int) := of_decide_eq_true (by first | (with_reducible assumption) | assumption)
                            obtain ⟨ad177, e177, hx177_0⟩ := Kd.at_int HR0.out a1 p177 q177
                            cases e177
                            replace p177 := eq_true p177
                            replace q177 := eq_true q177
                            have p179 : 0 ≤ ((ji15) : Int) := of_decide_eq_true (by first | (with_reducible assumption) | assumption)
                            have q179 : (ji15) < (l0.length : Int) := of_decide_eq_true (by first | (with_reducible assumption) | assumption)
                            obtain ⟨ad179, e179, hx179_0⟩ := Kd.at_int HR0.out (ji15) p179 q179
                            obtain rfl : ad177 = ad179 := (by injection e179)
                            replace p179 := eq_true p179
                            replace q179 := eq_true q179
                            go_wp2
                            go_ret3
                            exact ⟨by first | rfl | (simp; done) | (simp only [← hji15] <;> (first | rfl | simp)) | (simp [*]; done), by repeat (first | exact Drawn0.refl _ | apply Drawn0.step)⟩
                          · rw [if_neg c19] at H
                            have c19b0 : ((rd l0 (ji15)) == 116) = false := beq_eq_false_iff_ne.mpr c19
                            have c19b1 : ((rd l0 (ji15)) != 116) = true := bne_iff_ne.mpr c19
                            by_cases c20 : (rd l0 (ji15)) = 117
                            · rw [if_pos c20] at H
                              have c20b0 : ((rd l0 (ji15)) == 117) = true := beq_iff_eq.mpr c20
                              have c20b1 : ((rd l0 (ji15)) != 117) = false := bne_eq_false_iff_eq.mpr c20
                              clear c20
                              replace H := Option.bind_eq_some_iff.mp H
                              obtain ⟨⟨t180, t181, t182⟩, A210, H⟩ := H
                              replace H : (some (t180, t181, t182)) = some (r1, r2, r3) := H
                              have A21 := Aside0.mk A210
                              clear A210
                              simp only [Option.some.injEq, Prod.mk.injEq] at H
                              obtain ⟨rfl, rfl, rfl⟩ := H
                              have p177 : 0 ≤ (a1 : Int) := of_decide_eq_true (by first | (with_reducible assumption) | assumption)
                              have q177 : a1 < (l0.length : Int) := of_decide_eq_true (by first | (with_reducible assumption) | assumption)
                              obtain ⟨ad177, e177, hx177_0⟩ := Kd.at_int HR0.out a1 p177 q177
                              cases e177
                              replace p177 := eq_true p177
                              replace q177 := eq_true q177
                              have p179 : 0 ≤ ((ji15) : Int) := of_decide_eq_true (by first | (with_reducible assumption) | assumption)
                              have q179 : (ji15) < (l0.length : Int) := of_decide_eq_true (by first | (with_reducible assumption) | assumption)
                              obtain ⟨ad179, e179, hx179_0⟩ := Kd.at_int HR0.out (ji15) p179 q179
                              obtain rfl : ad177 = ad179 := (by injection e179)
                              replace p179 := eq_true p179
                              replace q179 := eq_true q179
                              go_wp2_with (first | ((with_reducible refine gate_callee (f := 26) rfl ?_); refine goesL_ (some 67) rfl rfl Tryd.func26 (by kernel_rfl) rfl #[.slice (some ad177) l0.length c0, .int .i64 a1] rfl (by (try simp only [List.map_toArray, List.map_cons, List.map_nil]); first | done | rfl | (simp only [List.length_drop, List.length_take]; rfl)) ?_; (with_reducible refine (caesuraref04_number.calls kj5 _ _ l0 a1 t180 t181 t182 _ ?side1 ?side2 A21.out).mono ?_); (case side1 => repeat (first | exact HR0.out | (with_reducible refine Kd.C_alloc ?_ _) | (with_reducible refine Kd.C_drewN ?_ _) | (with_reducible refine Kd.C_drew ?_))); (case side2 => exact HC0.out); rintro e w' ⟨rfl, ⟨nd, rfl⟩⟩; refine ⟨_, rfl, ?_⟩))
                              go_ret3
                              exact ⟨by first | rfl | (simp; done) | (simp only [← hji15] <;> (first | rfl | simp)) | (simp [*]; done), by repeat (first | exact Drawn0.refl _ | apply Drawn0.step)⟩
                            · rw [if_neg c20] at H
                              have c20b0 : ((rd l0 (ji15)) == 117) = false := beq_eq_false_iff_ne.mpr c20
                              have c20b1 : ((rd l0 (ji15)) != 117) = true := bne_iff_ne.mpr c20
                              by_cases c22 : (rd l0 (ji15)) ≥ 33
                              · rw [if_pos c22] at H
                                have c22b0 : decide (33 ≤ (rd l0 (ji15))) = true := decide_eq_true c22
                                clear c22
                                by_cases c23 : (rd l0 (ji15)) ≤ 126
                                · rw [if_pos c23] at H
                                  have c23b0 : decide ((rd l0 (ji15)) ≤ 126) = true := decide_eq_true c23
                                  clear c23
                                  replace H := Option.bind_eq_some_iff.mp H
                                  obtain ⟨t183, A240, H⟩ := H
                                  replace H : (if t183 = true then (some (0, a1, 6)) else (some (rd l0 (ji15), wrap64 (a1 + 2), 0))) = some (r1, r2, r3) := H
                                  have A24 := Aside0.mk A240
                                  clear A240
                                  by_cases c25 : t183 = true
                                  · subst c25
                                    have H1 : (some (0, a1, 6)) = some (r1, r2, r3) := by rw [if_pos rfl] at H; exact H
                                    clear H
                                    have H := H1
                                    clear H1
                                    simp only [Option.some.injEq, Prod.mk.injEq] at H
                                    obtain ⟨rfl, rfl, rfl⟩ := H
                                    have p177 : 0 ≤ (a1 : Int) := of_decide_eq_true (by first | (with_reducible assumption) | assumption)
                                    have q177 : a1 < (l0.length : Int) := of_decide_eq_true (by first | (with_reducible assumption) | assumption)
                                    obtain ⟨ad177, e177, hx177_0⟩ := Kd.at_int HR0.out a1 p177 q177
                                    cases e177
                                    replace p177 := eq_true p177
                                    replace q177 := eq_true q177
                                    have p179 : 0 ≤ ((ji15) : Int) := of_decide_eq_true (by first | (with_reducible assumption) | assumption)
                                    have q179 : (ji15) < (l0.length : Int) := of_decide_eq_true (by first | (with_reducible assumption) | assumption)
                                    obtain ⟨ad179, e179, hx179_0⟩ := Kd.at_int HR0.out (ji15) p179 q179
                                    obtain rfl : ad177 = ad179 := (by injection e179)
                                    replace p179 := eq_true p179
                                    replace q179 := eq_true q179
                                    go_wp2_with (first | (go_at_call 14; (with_reducible refine (caesuraref04_Plain.calls (rd l0 (ji15)) true _ A24.out).mono ?_); rintro e w' ⟨rfl, ⟨nd, rfl⟩⟩))
                                    go_ret3
                                    exact ⟨by first | rfl | (simp; done) | (simp only [← hji15] <;> (first | rfl | simp)) | (simp [*]; done), by repeat (first | exact Drawn0.refl _ | apply Drawn0.step)⟩
                                  · replace c25 := Bool.eq_false_iff.mpr c25
                                    subst c25
                                    have H1 : (some (rd l0 (ji15), wrap64 (a1 + 2), 0)) = some (r1, r2, r3) := by rw [if_neg (show ¬ (false = true) by decide)] at H; exact H
                                    clear H
                                    have H := H1
                                    clear H1
                                    simp only [Option.some.injEq, Prod.mk.injEq] at H
                                    obtain ⟨rfl, rfl, rfl⟩ := H
                                    have p177 : 0 ≤ (a1 : Int) := of_decide_eq_true (by first | (with_reducible assumption) | assumption)
                                    have q177 : a1 < (l0.length : Int) := of_decide_eq_true (by first | (with_reducible assumption) | assumption)
                                    obtain ⟨ad177, e177, hx177_0⟩ := Kd.at_int HR0.out a1 p177 q177
                                    cases e177
                                    replace p177 := eq_true p177
                                    replace q177 := eq_true q177
                                    have p179 : 0 ≤ ((ji15) : Int) := of_decide_eq_true (by first | (with_reducible assumption) | assumption)
                                    have q179 : (ji15) < (l0.length : Int) := of_decide_eq_true (by first | (with_reducible assumption) | assumption)
                                    obtain ⟨ad179, e179, hx179_0⟩ := Kd.at_int HR0.out (ji15) p179 q179
                                    obtain rfl : ad177 = ad179 := (by injection e179)
                                    replace p179 := eq_true p179
                                    replace q179 := eq_true q179
                                    go_wp2_with (first | (go_at_call 14; (with_reducible refine (caesuraref04_Plain.calls (rd l0 (ji15)) false _ A24.out).mono ?_); rintro e w' ⟨rfl, ⟨nd, rfl⟩⟩))
                                    go_ret3
                                    exact ⟨by first | rfl | (simp; done) | (simp only [← hji15] <;> (first | rfl | simp)) | (simp [*]; done), by repeat (first | exact Drawn0.refl _ | apply Drawn0.step)⟩
                                · rw [if_neg c23] at H
                                  have c23b0 : decide ((rd l0 (ji15)) ≤ 126) = false := decide_eq_false c23
                                  clear c23
                                  simp only [Option.some.injEq, Prod.mk.injEq] at H
                                  obtain ⟨rfl, rfl, rfl⟩ := H
                                  have p177 : 0 ≤ (a1 : Int) := of_decide_eq_true (by first | (with_reducible assumption) | assumption)
                                  have q177 : a1 < (l0.length : Int) := of_decide_eq_true (by first | (with_reducible assumption) | assumption)
                                  obtain ⟨ad177, e177, hx177_0⟩ := Kd.at_int HR0.out a1 p177 q177
                                  cases e177
                                  replace p177 := eq_true p177
                                  replace q177 := eq_true q177
                                  have p179 : 0 ≤ ((ji15) : Int) := of_decide_eq_true (by first | (with_reducible assumption) | assumption)
                                  have q179 : (ji15) < (l0.length : Int) := of_decide_eq_true (by first | (with_reducible assumption) | assumption)
                                  obtain ⟨ad179, e179, hx179_0⟩ := Kd.at_int HR0.out (ji15) p179 q179
                                  obtain rfl : ad177 = ad179 := (by injection e179)
                                  replace p179 := eq_true p179
                                  replace q179 := eq_true q179
                                  go_wp2
                                  go_ret3
                                  exact ⟨by first | rfl | (simp; done) | (simp only [← hji15] <;> (first | rfl | simp)) | (simp [*]; done), by repeat (first | exact Drawn0.refl _ | apply Drawn0.step)⟩
                              · rw [if_neg c22] at H
                                have c22b0 : decide (33 ≤ (rd l0 (ji15))) = false := decide_eq_false c22
                                clear c22
                                simp only [Option.some.injEq, Prod.mk.injEq] at H
                                obtain ⟨rfl, rfl, rfl⟩ := H
                                have p177 : 0 ≤ (a1 : Int) := of_decide_eq_true (by first | (with_reducible assumption) | assumption)
                                have q177 : a1 < (l0.length : Int) := of_decide_eq_true (by first | (with_reducible assumption) | assumption)
                                obtain ⟨ad177, e177, hx177_0⟩ := Kd.at_int HR0.out a1 p177 q177
                                cases e177
                                replace p177 := eq_true p177
                                replace q177 := eq_true q177
                                have p179 : 0 ≤ ((ji15) : Int) := of_decide_eq_true (by first | (with_reducible assumption) | assumption)
                                have q179 : (ji15) < (l0.length : Int) := of_decide_eq_true (by first | (with_reducible assumption) | assumption)
                                obtain ⟨ad179, e179, hx179_0⟩ := Kd.at_int HR0.out (ji15) p179 q179
                                obtain rfl : ad177 = ad179 := (by injection e179)
                                replace p179 := eq_true p179
                                replace q179 := eq_true q179
                                go_wp2
                                go_ret3
                                exact ⟨by first | rfl | (simp; done) | (simp only [← hji15] <;> (first | rfl | simp)) | (simp [*]; done), by repeat (first | exact Drawn0.refl _ | apply Drawn0.step)⟩
                      · rw [if_neg c17] at H
                        exact absurd H (by simp)
                    · rw [if_neg c16] at H
                      exact absurd H (by simp)
                  · rw [if_neg c14] at H
                    have c14b0 : ((rd l0 a1) == 92) = false := beq_eq_false_iff_ne.mpr c14
                    have c14b1 : ((rd l0 a1) != 92) = true := bne_iff_ne.mpr c14
                    simp only [Option.some.injEq, Prod.mk.injEq] at H
                    obtain ⟨rfl, rfl, rfl⟩ := H
                    have p177 : 0 ≤ (a1 : Int) := of_decide_eq_true (by first | (with_reducible assumption) | assumption)
                    have q177 : a1 < (l0.length : Int) := of_decide_eq_true (by first | (with_reducible assumption) | assumption)
                    obtain ⟨ad177, e177, hx177_0⟩ := Kd.at_int HR0.out a1 p177 q177
                    cases e177
                    replace p177 := eq_true p177
                    replace q177 := eq_true q177
                    have p178 : 0 ≤ (a1 : Int) := of_decide_eq_true (by first | (with_reducible assumption) | assumption)
                    have q178 : a1 < (l0.length : Int) := of_decide_eq_true (by first | (with_reducible assumption) | assumption)
                    obtain ⟨ad178, e178, hx178_0⟩ := Kd.at_int HR0.out a1 p178 q178
                    obtain rfl : ad177 = ad178 := (by injection e178)
                    replace p178 := eq_true p178
                    replace q178 := eq_true q178
                    go_wp2
                    go_ret3
                    exact ⟨by first | rfl | (simp; done) | (simp [*]; done), by repeat (first | exact Drawn0.refl _ | apply Drawn0.step)⟩
                · rw [if_neg c13] at H
                  exact absurd H (by simp)
              · rw [if_neg c12] at H
                exact absurd H (by simp)

end Go.Proofs.YtdkcdgfjjppidaaDoor.XA
