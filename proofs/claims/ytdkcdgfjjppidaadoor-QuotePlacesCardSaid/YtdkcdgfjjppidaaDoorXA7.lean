-- Written by a program of this session (xprint) over the translation.
import Derived.Test.YtdkcdgfjjppidaaDoorXA0
import Derived.Test.YtdkcdgfjjppidaaDoorXA4
import Derived.Test.YtdkcdgfjjppidaaDoorXA5
import Derived.Test.YtdkcdgfjjppidaaDoorXA6
import Derived.Test.YtdkcdgfjjppidaaDoorQRead
namespace Go.Proofs.YtdkcdgfjjppidaaDoor.XA
open Go.RowKit Go.Proofs.YtdkcdgfjjppidaaDoorW.PrintWords Go.Proofs.YtdkcdgfjjppidaaDoorW.PrintLast Go.Proofs.YtdkcdgfjjppidaaDoorW.PrintMore
attribute [local go_sem] max2_int min2_int max_two min_two max_three min_three max_four min_four   -- for this text's walks alone
set_option linter.unusedVariables false
set_option linter.unusedSimpArgs false

/-! ### caesuraref04_Parse: function 18 -/
mutual
def caesuraref04_Parse.l0 : Nat → ByteArray → List Int → Int → Option (List Int × Int)
  | 0, _, _, _ => none
  | k + 1, x0, x4, x6 => if x6 < (x0.size : Int) then (if 0 ≤ x6 then (if x4.length < 17592186044416 then (caesuraref04_Parse.l0 k x0 (x4 ++ [wrap64 (bt x0 x6)]) (wrap64 (x6 + 1))) else (none)) else (none)) else (caesuraref04_Parse.l1 k x0 x4 ([] : List Int) 0)
def caesuraref04_Parse.l1 : Nat → ByteArray → List Int → List Int → Int → Option (List Int × Int)
  | 0, _, _, _, _ => none
  | k + 1, x0, x4, x5, x7 => if x7 < (x4.length : Int) then ((caesuraref04_Read.f k x4 x7).bind fun bt187 => (if bt187.2.2 = 0 then (if x5.length < 17592186044416 then (caesuraref04_Parse.l1 k x0 x4 (x5 ++ [bt187.1]) bt187.2.1) else (none)) else (some (([] : List Int), 15)))) else ((caesuraref04_Texts.f k x5).bind fun bt193 => (if bt193.2 = 0 then (if bt193.1.toList = x0.toList then (some (x5, 0)) else (some (([] : List Int), 15))) else (some (([] : List Int), 15))))
end
def caesuraref04_Parse.f (k : Nat) (a0 : ByteArray) : Option (List Int × Int) := caesuraref04_Parse.l0 k a0 ([] : List Int) 0
theorem caesuraref04_Parse.mono_l : ∀ k, (∀ y0 y1 y2, LeO (caesuraref04_Parse.l0 k y0 y1 y2) (caesuraref04_Parse.l0 (k + 1) y0 y1 y2)) ∧ (∀ y0 y1 y2 y3, LeO (caesuraref04_Parse.l1 k y0 y1 y2 y3) (caesuraref04_Parse.l1 (k + 1) y0 y1 y2 y3))
  | 0 => ⟨fun _ _ _ r h => by simp [caesuraref04_Parse.l0] at h, fun _ _ _ _ r h => by simp [caesuraref04_Parse.l1] at h⟩
  | k + 1 => by
    obtain ⟨ih0, ih1⟩ := caesuraref04_Parse.mono_l k
    refine ⟨?_, ?_⟩
    · intro y0 y1 y2
      unfold caesuraref04_Parse.l0
      repeat' first
      | (with_reducible exact ih0 _ _ _)
      | (with_reducible exact ih1 _ _ _ _)
      | (with_reducible exact caesuraref04_Read.mono _ _ _)
      | (with_reducible exact caesuraref04_Texts.mono _ _)
      | (with_reducible exact LeO.refl _)
      | (with_reducible exact LeO.none _)
      | (with_reducible refine LeO.ite ?_ ?_)
      | (with_reducible refine LeO.bind ?_ (fun _ => ?_))
      | exact ih0 _ _ _
      | exact ih1 _ _ _ _
      | exact caesuraref04_Read.mono _ _ _
      | exact caesuraref04_Texts.mono _ _
      | exact LeO.none _
      | refine LeO.ite ?_ ?_
      | refine LeO.bind ?_ (fun _ => ?_)
    · intro y0 y1 y2 y3
      unfold caesuraref04_Parse.l1
      repeat' first
      | (with_reducible exact ih0 _ _ _)
      | (with_reducible exact ih1 _ _ _ _)
      | (with_reducible exact caesuraref04_Read.mono _ _ _)
      | (with_reducible exact caesuraref04_Texts.mono _ _)
      | (with_reducible exact LeO.refl _)
      | (with_reducible exact LeO.none _)
      | (with_reducible refine LeO.ite ?_ ?_)
      | (with_reducible refine LeO.bind ?_ (fun _ => ?_))
      | exact ih0 _ _ _
      | exact ih1 _ _ _ _
      | exact caesuraref04_Read.mono _ _ _
      | exact caesuraref04_Texts.mono _ _
      | exact LeO.none _
      | refine LeO.ite ?_ ?_
      | refine LeO.bind ?_ (fun _ => ?_)
theorem caesuraref04_Parse.mono : ∀ a0 k, LeO (caesuraref04_Parse.f k a0) (caesuraref04_Parse.f (k + 1) a0) := by
  intro a0 k
  obtain ⟨ih0, ih1⟩ := caesuraref04_Parse.mono_l k
  unfold caesuraref04_Parse.f
  repeat' first
      | (with_reducible exact ih0 _ _ _)
      | (with_reducible exact ih1 _ _ _ _)
      | (with_reducible exact caesuraref04_Read.mono _ _ _)
      | (with_reducible exact caesuraref04_Texts.mono _ _)
      | (with_reducible exact LeO.refl _)
      | (with_reducible exact LeO.none _)
      | (with_reducible refine LeO.ite ?_ ?_)
      | (with_reducible refine LeO.bind ?_ (fun _ => ?_))
      | exact ih0 _ _ _
      | exact ih1 _ _ _ _
      | exact caesuraref04_Read.mono _ _ _
      | exact caesuraref04_Texts.mono _ _
      | exact LeO.none _
      | refine LeO.ite ?_ ?_
      | refine LeO.bind ?_ (fun _ => ?_)
set_option maxHeartbeats 8000000 in
set_option maxRecDepth 100000 in
theorem caesuraref04_Parse.calls (k : Nat) (a0 : ByteArray) (r1 : List Int) (r2 : Int) (w : World) (h : caesuraref04_Parse.f k a0 = some (r1, r2)) :
    Calls Tryd.prog 18 #[.string a0] w fun e w' => ∃ v0_ : Value, e = .returned (.tuple #[v0_, .int .i64 r2]) ∧ Kd.R (Kd.int .i64) 3 w' w.heap.size (fun _ => True) v0_ r1 ∧ Below w.heap.size w w' := by
  have HB := Aside0.mk (Below.refl w.heap.size w)
  have H : (caesuraref04_Parse.l0 k a0 ([] : List Int) 0) = some (r1, r2) := h
  clear h
  have H' := Aside0.mk H
  clear H
  go_enter Tryd.func18, Tryd.ntmps18
  go_wp2
  go_loopg [4, 6] k (fun kq v4 v6 w' => ∃ (x4_1 : List Int) (x6_1 : Int), v6 = .int .i64 x6_1 ∧ Aside0 (caesuraref04_Parse.l0 kq a0 x4_1 x6_1 = some (r1, r2)) ∧ Aside0 (kq ≤ k) ∧ Aside0 (Kd.R (Kd.int .i64) 3 w' w.heap.size (fun _ => True) v4 x4_1) ∧ Aside0 (Below w.heap.size w w'))
  case atStart => exact ⟨(([] : List Int)), (0), (by first | rfl | (simp; done) | (simp [*]; done)), H', ⟨Nat.le_refl _⟩, ⟨by first | exact Kd.R_nil _ _ _ _ _ | exact Kd.N_nil _ _ _ _ _ | exact Kd.V_nil _ _ _ _ _ | exact Kd.Q_nil _ _ _ _ _ | exact Kd.S_nil _ _ _ _ _⟩, ⟨by repeat (first | (with_reducible first | exact HB.out | apply below_alloc | apply pw_below_drewN | apply below_drew1) | exact HB.out)⟩⟩
  case round =>
    clear H'
    try clear c1
    obtain ⟨x4_1, x6_1, rfl, HA, HK1, HO_4, HB⟩ := hrel
    cases gk with
    | zero => exact absurd HA.out (by simp [caesuraref04_Parse.l0])
    | succ k1 =>
      have H := HA.out
      clear HA
      simp only [caesuraref04_Parse.l0] at H
      by_cases c2 : x6_1 < (a0.size : Int)
      · rw [if_pos c2] at H
        have c2b0 : decide (x6_1 < (a0.size : Int)) = true := decide_eq_true c2
        clear c2
        by_cases c3 : 0 ≤ x6_1
        · rw [if_pos c3] at H
          have c3b0 : decide (0 ≤ x6_1) = true := decide_eq_true c3
          clear c3
          by_cases c5 : x4_1.length < 17592186044416
          · rw [if_pos c5] at H
            have LMc5 := Aside0.mk c5
            clear c5
            obtain ⟨y184, hy184⟩ : ∃ y_ : List Int, y_ = (x4_1 ++ [wrap64 (bt a0 x6_1)]) := ⟨_, rfl⟩
            replace H : (caesuraref04_Parse.l0 k1 a0 y184 (wrap64 (x6_1 + 1))) = some (r1, r2) := by first | (rw [hy184]; with_reducible exact H) | (have H2_ := (Option.bind_some _ _).symm.trans H; rw [hy184]; with_reducible exact H2_) | (have H2_ := (Option.bind_some _ _).symm.trans H; with_reducible exact H2_) | with_reducible exact H | (rw [hy184]; exact H) | exact H
            have Ny184 := Aside0.mk hy184
            clear hy184
            have H' := Aside0.mk H
            clear H
            have p4 : 0 ≤ (x6_1 : Int) := of_decide_eq_true (by first | (with_reducible assumption) | assumption)
            have q4 : x6_1 < (a0.size : Int) := of_decide_eq_true (by first | (with_reducible assumption) | assumption)
            have hx4 := bt_at a0 x6_1
            replace p4 := eq_true p4
            replace q4 := eq_true q4
            go_wp2_with (first | ((with_reducible refine gate_builtin (b := .append) (xs := #[.tmp 19, .tmp 24]) rfl ?_); at_builtin; refine Kd.R_append (Kd.int .i64) (w0 := w) w.heap.size rfl (.tmp 19) (.tmp 24) 22 3 (.int .i64 0) 8 rfl Tryd.underlying22 info3 rfl (by decide) (by omega) u4 x4_1 (wrap64 (bt a0 x6_1)) [.int .i64 (wrap64 (bt a0 x6_1))] (fun _ => True) (fun _ => False) rfl rfl ?aP (fun _ hk => hk.elim) ?aF ?aO ?aB ?aS ?aL ?_; (case aP => exact rfl); (case aB => exact (by repeat (first | (with_reducible first | exact HB.out | apply below_alloc | apply pw_below_drewN | apply below_drew1) | exact HB.out))); (case aF => exact (fun _ _ => trivial)); (case aO => exact (by (with_reducible repeat (first | apply Kd.R_alloc | apply Kd.R_drewN | apply Kd.R_drew)); exact HO_4.out)); (case aS => exact (below_size (by repeat (first | (with_reducible first | exact HB.out | apply below_alloc | apply pw_below_drewN | apply below_drew1) | exact HB.out)))); (case aL => have := LMc5.out; omega); intro v185 w6 ho hb hg hat; rw [← Ny184.out] at ho; have n0_ := Aside0.mk (hb); have n1_ := Aside0.mk (ho); clear HB; clear HO_4; have HB := n0_; have HO186 := n1_; clear n0_ n1_; clear ho hb hg hat))
            go_roundg k1
            case measure => have := HK1.out; omega
            case rel => exact ⟨(y184), (wrap64 (x6_1 + 1)), (by first | rfl | (simp; done) | (simp [*]; done)), H', ⟨by have := HK1.out; omega⟩, ⟨by (with_reducible repeat (first | apply Kd.R_alloc | apply Kd.R_drewN | apply Kd.R_drew)); exact HO186.out⟩, ⟨by repeat (first | (with_reducible first | exact HB.out | apply below_alloc | apply pw_below_drewN | apply below_drew1) | exact HB.out)⟩⟩
          · rw [if_neg c5] at H
            exact absurd H (by simp)
        · rw [if_neg c3] at H
          exact absurd H (by simp)
      · rw [if_neg c2] at H
        have c2b0 : decide (x6_1 < (a0.size : Int)) = false := decide_eq_false c2
        clear c2
        have H' := Aside0.mk H
        clear H
        go_wp2
        go_loopg [5, 7] k1 (fun kq v5 v7 w' => ∃ (x5_2 : List Int) (x7_2 : Int), v7 = .int .i64 x7_2 ∧ Aside0 (caesuraref04_Parse.l1 kq a0 x4_1 x5_2 x7_2 = some (r1, r2)) ∧ Aside0 (kq ≤ k1) ∧ Aside0 (Kd.R (Kd.int .i64) 3 w' w.heap.size (fun k_ => some k_ ≠ (v5 : Value).ownBlock) u4 x4_1) ∧ Aside0 (Kd.R (Kd.int .i64) 3 w' w.heap.size (fun k_ => some k_ ≠ (u4 : Value).ownBlock) v5 x5_2) ∧ Aside0 (Below w.heap.size w w'))
        case atStart => exact ⟨(([] : List Int)), (0), (by first | rfl | (simp; done) | (simp [*]; done)), H', ⟨Nat.le_refl _⟩, ⟨by (with_reducible repeat (first | apply Kd.R_alloc | apply Kd.R_drewN | apply Kd.R_drew)); exact Kd.R_mono HO_4.out (fun _ hk => (by simp [Value.ownBlock]))⟩, ⟨by first | exact Kd.R_nil _ _ _ _ _ | exact Kd.N_nil _ _ _ _ _ | exact Kd.V_nil _ _ _ _ _ | exact Kd.Q_nil _ _ _ _ _ | exact Kd.S_nil _ _ _ _ _⟩, ⟨by repeat (first | (with_reducible first | exact HB.out | apply below_alloc | apply pw_below_drewN | apply below_drew1) | exact HB.out)⟩⟩
        case round =>
          clear H'
          try clear c1
          try clear c2
          try clear c2b0
          try clear p2
          try clear c3
          try clear c3b0
          try clear p4
          try clear q4
          try clear hx4
          try clear c5
          try clear p6
          try clear p4
          try clear q4
          obtain ⟨x5_2, x7_2, rfl, HA, HK2, HO_4, HO_5, HB⟩ := hrel
          cases gk with
          | zero => exact absurd HA.out (by simp [caesuraref04_Parse.l1])
          | succ k2 =>
            have H := HA.out
            clear HA
            simp only [caesuraref04_Parse.l1] at H
            by_cases c7 : x7_2 < (x4_1.length : Int)
            · rw [if_pos c7] at H
              have c7b0 : decide (x7_2 < (x4_1.length : Int)) = true := decide_eq_true c7
              clear c7
              replace H := Option.bind_eq_some_iff.mp H
              obtain ⟨⟨t187, t188, t189⟩, A80, H⟩ := H
              replace H : (if t189 = 0 then (if x5_2.length < 17592186044416 then (caesuraref04_Parse.l1 k2 a0 x4_1 (x5_2 ++ [t187]) t188) else (none)) else (some (([] : List Int), 15))) = some (r1, r2) := H
              have A8 := Aside0.mk A80
              clear A80
              by_cases c9 : t189 = 0
              · rw [if_pos c9] at H
                have c9b0 : (t189 == 0) = true := beq_iff_eq.mpr c9
                have c9b1 : (t189 != 0) = false := bne_eq_false_iff_eq.mpr c9
                clear c9
                by_cases c10 : x5_2.length < 17592186044416
                · rw [if_pos c10] at H
                  have LMc10 := Aside0.mk c10
                  clear c10
                  obtain ⟨y190, hy190⟩ : ∃ y_ : List Int, y_ = (x5_2 ++ [t187]) := ⟨_, rfl⟩
                  replace H : (caesuraref04_Parse.l1 k2 a0 x4_1 y190 t188) = some (r1, r2) := by first | (rw [hy190]; with_reducible exact H) | (have H2_ := (Option.bind_some _ _).symm.trans H; rw [hy190]; with_reducible exact H2_) | (have H2_ := (Option.bind_some _ _).symm.trans H; with_reducible exact H2_) | with_reducible exact H | (rw [hy190]; exact H) | exact H
                  have Ny190 := Aside0.mk hy190
                  clear hy190
                  have H' := Aside0.mk H
                  clear H
                  obtain ⟨Ao11, co11, eo11⟩ := Kd.R_slice HO_4.out
                  subst eo11
                  go_wp2_with (first | ((with_reducible refine gate_callee (f := 16) rfl ?_); refine goesL_ (some 33) rfl rfl Tryd.func16 (by kernel_rfl) rfl #[.slice Ao11 x4_1.length co11, .int .i64 x7_2] rfl (by (try simp only [List.map_toArray, List.map_cons, List.map_nil]); first | done | rfl | (simp only [List.length_drop, List.length_take]; rfl)) ?_; (with_reducible refine (caesuraref04_Read.calls k2 _ _ x4_1 x7_2 t187 t188 t189 _ ?side1 ?side2 A8.out).mono ?_); (case side1 => repeat (first | exact (Kd.R_reads' HO_4.out).2.2 | (with_reducible refine Kd.C_alloc ?_ _) | (with_reducible refine Kd.C_drewN ?_ _) | (with_reducible refine Kd.C_drew ?_))); (case side2 => exact (Kd.R_reads' HO_4.out).2.1); rintro e w' ⟨rfl, ⟨nd, rfl⟩⟩; refine ⟨_, rfl, ?_⟩) | ((with_reducible refine gate_builtin (b := .append) (xs := #[.tmp 39, .tmp 41]) rfl ?_); at_builtin; refine Kd.R_append (Kd.int .i64) (w0 := w) w.heap.size rfl (.tmp 39) (.tmp 41) 22 3 (.int .i64 0) 8 rfl Tryd.underlying22 info3 rfl (by decide) (by omega) u5 x5_2 t187 [.int .i64 t187] (fun k_ => some k_ ≠ (.slice Ao11 x4_1.length co11 : Value).ownBlock) (fun _ => False) rfl rfl ?aP (fun _ hk => hk.elim) ?aF ?aO ?aB ?aS ?aL ?_; (case aP => exact rfl); (case aB => exact (by repeat (first | (with_reducible first | exact HB.out | apply below_alloc | apply pw_below_drewN | apply below_drew1) | exact HB.out))); (case aF => exact (fun k_ hk => Kd.fresh' (Kd.R_lt (by (with_reducible repeat (first | apply Kd.R_alloc | apply Kd.R_drewN | apply Kd.R_drew)); exact HO_4.out)) k_ hk)); (case aO => exact (by (with_reducible repeat (first | apply Kd.R_alloc | apply Kd.R_drewN | apply Kd.R_drew)); exact HO_5.out)); (case aS => exact (below_size (by repeat (first | (with_reducible first | exact HB.out | apply below_alloc | apply pw_below_drewN | apply below_drew1) | exact HB.out)))); (case aL => have := LMc10.out; omega); intro v191 w12 ho hb hg hat; rw [← Ny190.out] at ho; have n0_ := Aside0.mk (Kd.R_after (ok := (fun _ => True)) (by (with_reducible repeat (first | apply Kd.R_alloc | apply Kd.R_drewN | apply Kd.R_drew)); exact Kd.R_mono HO_4.out (fun _ hk => ⟨trivial, hk⟩)) hg hat); have n1_ := Aside0.mk (hb); have n2_ := Aside0.mk (ho); clear HO_4; clear HB; clear HO_5; have HO_4 := n0_; have HB := n1_; have HO192 := n2_; clear n0_ n1_ n2_; clear ho hb hg hat))
                  go_roundg k2
                  case measure => have := HK1.out; have := HK2.out; omega
                  case rel => exact ⟨(y190), (t188), (by first | rfl | (simp; done) | (simp [*]; done)), H', ⟨by have := HK1.out; have := HK2.out; omega⟩, ⟨by (with_reducible repeat (first | apply Kd.R_alloc | apply Kd.R_drewN | apply Kd.R_drew)); exact Kd.R_mono HO_4.out (fun _ hk => hk.2)⟩, ⟨by (with_reducible repeat (first | apply Kd.R_alloc | apply Kd.R_drewN | apply Kd.R_drew)); exact HO192.out⟩, ⟨by repeat (first | (with_reducible first | exact HB.out | apply below_alloc | apply pw_below_drewN | apply below_drew1) | exact HB.out)⟩⟩
                · rw [if_neg c10] at H
                  exact absurd H (by simp)
              · rw [if_neg c9] at H
                have c9b0 : (t189 == 0) = false := beq_eq_false_iff_ne.mpr c9
                have c9b1 : (t189 != 0) = true := bne_iff_ne.mpr c9
                simp only [Option.some.injEq, Prod.mk.injEq] at H
                obtain ⟨rfl, rfl⟩ := H
                obtain ⟨Ao13, co13, eo13⟩ := Kd.R_slice HO_4.out
                subst eo13
                go_wp2_with (first | ((with_reducible refine gate_callee (f := 16) rfl ?_); refine goesL_ (some 33) rfl rfl Tryd.func16 (by kernel_rfl) rfl #[.slice Ao13 x4_1.length co13, .int .i64 x7_2] rfl (by (try simp only [List.map_toArray, List.map_cons, List.map_nil]); first | done | rfl | (simp only [List.length_drop, List.length_take]; rfl)) ?_; (with_reducible refine (caesuraref04_Read.calls k2 _ _ x4_1 x7_2 t187 t188 t189 _ ?side1 ?side2 A8.out).mono ?_); (case side1 => repeat (first | exact (Kd.R_reads' HO_4.out).2.2 | (with_reducible refine Kd.C_alloc ?_ _) | (with_reducible refine Kd.C_drewN ?_ _) | (with_reducible refine Kd.C_drew ?_))); (case side2 => exact (Kd.R_reads' HO_4.out).2.1); rintro e w' ⟨rfl, ⟨nd, rfl⟩⟩; refine ⟨_, rfl, ?_⟩))
                go_ret2
                exact ⟨_, by first | rfl | (simp [errW_none, errW_some] <;> rfl) | (simp [*, errW_none, errW_some] <;> rfl), by first | exact Kd.R_nil _ _ _ _ _ | exact Kd.N_nil _ _ _ _ _ | exact Kd.V_nil _ _ _ _ _ | exact Kd.Q_nil _ _ _ _ _ | exact Kd.S_nil _ _ _ _ _, by repeat (first | (with_reducible first | exact HB.out | apply below_alloc | apply pw_below_drewN | apply below_drew1) | exact HB.out)⟩
            · rw [if_neg c7] at H
              have c7b0 : decide (x7_2 < (x4_1.length : Int)) = false := decide_eq_false c7
              clear c7
              replace H := Option.bind_eq_some_iff.mp H
              obtain ⟨⟨t193, t194⟩, A140, H⟩ := H
              replace H : (if t194 = 0 then (if t193.toList = a0.toList then (some (x5_2, 0)) else (some (([] : List Int), 15))) else (some (([] : List Int), 15))) = some (r1, r2) := H
              have A14 := Aside0.mk A140
              clear A140
              by_cases c15 : t194 = 0
              · rw [if_pos c15] at H
                have c15b0 : (t194 == 0) = true := beq_iff_eq.mpr c15
                have c15b1 : (t194 != 0) = false := bne_eq_false_iff_eq.mpr c15
                clear c15
                by_cases c16 : t193.toList = a0.toList
                · rw [if_pos c16] at H
                  have c16b0 : (t193.toList == a0.toList) = true := beq_iff_eq.mpr c16
                  have c16b1 : (t193.toList != a0.toList) = false := bne_eq_false_iff_eq.mpr c16
                  clear c16
                  simp only [Option.some.injEq, Prod.mk.injEq] at H
                  obtain ⟨rfl, rfl⟩ := H
                  obtain ⟨Ao17, co17, eo17⟩ := Kd.R_slice HO_4.out
                  subst eo17
                  obtain ⟨Ao18, co18, eo18⟩ := Kd.R_slice HO_5.out
                  subst eo18
                  go_wp2_with (first | ((with_reducible refine gate_callee (f := 10) rfl ?_); refine goesL_ (some 46) rfl rfl Tryd.func10 (by kernel_rfl) rfl #[.slice Ao18 x5_2.length co18] rfl (by (try simp only [List.map_toArray, List.map_cons, List.map_nil]); first | done | rfl | (simp only [List.length_drop, List.length_take]; rfl)) ?_; (with_reducible refine (caesuraref04_Texts.calls k2 _ _ x5_2 t193 t194 _ ?side1 ?side2 A14.out).mono ?_); (case side1 => repeat (first | exact (Kd.R_reads' HO_5.out).2.2 | (with_reducible refine Kd.C_alloc ?_ _) | (with_reducible refine Kd.C_drewN ?_ _) | (with_reducible refine Kd.C_drew ?_))); (case side2 => exact (Kd.R_reads' HO_5.out).2.1); rintro e w19 ⟨rfl, hb⟩; refine ⟨_, rfl, ?_⟩; have n0_ := Aside0.mk (Kd.R_below (by (with_reducible repeat (first | apply Kd.R_alloc | apply Kd.R_drewN | apply Kd.R_drew)); exact HO_4.out) hb); have n1_ := Aside0.mk (Kd.R_below (by (with_reducible repeat (first | apply Kd.R_alloc | apply Kd.R_drewN | apply Kd.R_drew)); exact HO_5.out) hb); have n2_ := Aside0.mk (below_step (by repeat (first | (with_reducible first | exact HB.out | apply below_alloc | apply pw_below_drewN | apply below_drew1) | exact HB.out)) hb); clear HO_4; clear HO_5; clear HB; have HO_4 := n0_; have HO_5 := n1_; have HB := n2_; clear n0_ n1_ n2_; (try clear hb); (try clear hb2); (try clear hk); (try clear hi)))
                  go_ret2
                  exact ⟨_, by first | rfl | (simp [errW_none, errW_some] <;> rfl) | (simp [*, errW_none, errW_some] <;> rfl), by (with_reducible repeat (first | apply Kd.R_alloc | apply Kd.R_drewN | apply Kd.R_drew)); exact Kd.R_mono HO_5.out (fun _ hk => trivial), by repeat (first | (with_reducible first | exact HB.out | apply below_alloc | apply pw_below_drewN | apply below_drew1) | exact HB.out)⟩
                · rw [if_neg c16] at H
                  have c16b0 : (t193.toList == a0.toList) = false := beq_eq_false_iff_ne.mpr c16
                  have c16b1 : (t193.toList != a0.toList) = true := bne_iff_ne.mpr c16
                  simp only [Option.some.injEq, Prod.mk.injEq] at H
                  obtain ⟨rfl, rfl⟩ := H
                  obtain ⟨Ao20, co20, eo20⟩ := Kd.R_slice HO_4.out
                  subst eo20
                  obtain ⟨Ao21, co21, eo21⟩ := Kd.R_slice HO_5.out
                  subst eo21
                  go_wp2_with (first | ((with_reducible refine gate_callee (f := 10) rfl ?_); refine goesL_ (some 46) rfl rfl Tryd.func10 (by kernel_rfl) rfl #[.slice Ao21 x5_2.length co21] rfl (by (try simp only [List.map_toArray, List.map_cons, List.map_nil]); first | done | rfl | (simp only [List.length_drop, List.length_take]; rfl)) ?_; (with_reducible refine (caesuraref04_Texts.calls k2 _ _ x5_2 t193 t194 _ ?side1 ?side2 A14.out).mono ?_); (case side1 => repeat (first | exact (Kd.R_reads' HO_5.out).2.2 | (with_reducible refine Kd.C_alloc ?_ _) | (with_reducible refine Kd.C_drewN ?_ _) | (with_reducible refine Kd.C_drew ?_))); (case side2 => exact (Kd.R_reads' HO_5.out).2.1); rintro e w22 ⟨rfl, hb⟩; refine ⟨_, rfl, ?_⟩; have n0_ := Aside0.mk (Kd.R_below (by (with_reducible repeat (first | apply Kd.R_alloc | apply Kd.R_drewN | apply Kd.R_drew)); exact HO_4.out) hb); have n1_ := Aside0.mk (Kd.R_below (by (with_reducible repeat (first | apply Kd.R_alloc | apply Kd.R_drewN | apply Kd.R_drew)); exact HO_5.out) hb); have n2_ := Aside0.mk (below_step (by repeat (first | (with_reducible first | exact HB.out | apply below_alloc | apply pw_below_drewN | apply below_drew1) | exact HB.out)) hb); clear HO_4; clear HO_5; clear HB; have HO_4 := n0_; have HO_5 := n1_; have HB := n2_; clear n0_ n1_ n2_; (try clear hb); (try clear hb2); (try clear hk); (try clear hi)))
                  go_ret2
                  exact ⟨_, by first | rfl | (simp [errW_none, errW_some] <;> rfl) | (simp [*, errW_none, errW_some] <;> rfl), by first | exact Kd.R_nil _ _ _ _ _ | exact Kd.N_nil _ _ _ _ _ | exact Kd.V_nil _ _ _ _ _ | exact Kd.Q_nil _ _ _ _ _ | exact Kd.S_nil _ _ _ _ _, by repeat (first | (with_reducible first | exact HB.out | apply below_alloc | apply pw_below_drewN | apply below_drew1) | exact HB.out)⟩
              · rw [if_neg c15] at H
                have c15b0 : (t194 == 0) = false := beq_eq_false_iff_ne.mpr c15
                have c15b1 : (t194 != 0) = true := bne_iff_ne.mpr c15
                simp only [Option.some.injEq, Prod.mk.injEq] at H
                obtain ⟨rfl, rfl⟩ := H
                obtain ⟨Ao23, co23, eo23⟩ := Kd.R_slice HO_4.out
                subst eo23
                obtain ⟨Ao24, co24, eo24⟩ := Kd.R_slice HO_5.out
                subst eo24
                go_wp2_with (first | ((with_reducible refine gate_callee (f := 10) rfl ?_); refine goesL_ (some 46) rfl rfl Tryd.func10 (by kernel_rfl) rfl #[.slice Ao24 x5_2.length co24] rfl (by (try simp only [List.map_toArray, List.map_cons, List.map_nil]); first | done | rfl | (simp only [List.length_drop, List.length_take]; rfl)) ?_; (with_reducible refine (caesuraref04_Texts.calls k2 _ _ x5_2 t193 t194 _ ?side1 ?side2 A14.out).mono ?_); (case side1 => repeat (first | exact (Kd.R_reads' HO_5.out).2.2 | (with_reducible refine Kd.C_alloc ?_ _) | (with_reducible refine Kd.C_drewN ?_ _) | (with_reducible refine Kd.C_drew ?_))); (case side2 => exact (Kd.R_reads' HO_5.out).2.1); rintro e w25 ⟨rfl, hb⟩; refine ⟨_, rfl, ?_⟩; have n0_ := Aside0.mk (Kd.R_below (by (with_reducible repeat (first | apply Kd.R_alloc | apply Kd.R_drewN | apply Kd.R_drew)); exact HO_4.out) hb); have n1_ := Aside0.mk (Kd.R_below (by (with_reducible repeat (first | apply Kd.R_alloc | apply Kd.R_drewN | apply Kd.R_drew)); exact HO_5.out) hb); have n2_ := Aside0.mk (below_step (by repeat (first | (with_reducible first | exact HB.out | apply below_alloc | apply pw_below_drewN | apply below_drew1) | exact HB.out)) hb); clear HO_4; clear HO_5; clear HB; have HO_4 := n0_; have HO_5 := n1_; have HB := n2_; clear n0_ n1_ n2_; (try clear hb); (try clear hb2); (try clear hk); (try clear hi)))
                go_ret2
                exact ⟨_, by first | rfl | (simp [errW_none, errW_some] <;> rfl) | (simp [*, errW_none, errW_some] <;> rfl), by first | exact Kd.R_nil _ _ _ _ _ | exact Kd.N_nil _ _ _ _ _ | exact Kd.V_nil _ _ _ _ _ | exact Kd.Q_nil _ _ _ _ _ | exact Kd.S_nil _ _ _ _ _, by repeat (first | (with_reducible first | exact HB.out | apply below_alloc | apply pw_below_drewN | apply below_drew1) | exact HB.out)⟩

/-! ### caesuralaw04_QuoteReads: function 4 -/
def caesuralaw04_QuoteReads.j0 : Nat → List Int → Int → ByteArray → Bool → Option (Bool)
  | 0, _, _, _, _ => none
  | k + 1, x0, x1, x2, x26 => if x26 = true then (some true) else ((quote_Read.f x0 x1).bind fun bt196 => ((caesuraref04_Read.f k x0 x1).bind fun bt199 => ((quote_Parse.f k x2).bind fun bt202 => ((caesuraref04_Parse.f k x2).bind fun bt206 => (if bt196.1 = bt199.1 then (if bt196.2.1 = bt199.2.1 then (if bt196.2.2 = bt199.2.2 then ((caesuraref01_Ints.f k bt202.1 bt206.1).bind fun t210 => (if t210 = true then (some (bt202.2 == bt206.2)) else (none))) else (none)) else (none)) else (none))))))
def caesuralaw04_QuoteReads.f (k : Nat) (l0 : List Int) (a1 : Int) (a2 : ByteArray) : Option (Bool) := (caesuralaw04_alive.f k).bind fun t195 => (if t195 = true then (if (l0.length : Int) > 1000 then (caesuralaw04_QuoteReads.j0 k l0 a1 a2 true) else (caesuralaw04_QuoteReads.j0 k l0 a1 a2 (decide ((a2.size : Int) > 5000)))) else (none))
theorem caesuralaw04_QuoteReads.mono_l : ∀ k, (∀ y0 y1 y2 y3, LeO (caesuralaw04_QuoteReads.j0 k y0 y1 y2 y3) (caesuralaw04_QuoteReads.j0 (k + 1) y0 y1 y2 y3))
  | 0 => fun _ _ _ _ r h => by simp [caesuralaw04_QuoteReads.j0] at h
  | k + 1 => by
    have ih0 := caesuralaw04_QuoteReads.mono_l k
    · intro y0 y1 y2 y3
      unfold caesuralaw04_QuoteReads.j0
      repeat' first
      | (with_reducible exact ih0 _ _ _ _)
      | (with_reducible exact caesuralaw04_alive.mono _)
      | (with_reducible exact caesuraref01_Ints.mono _ _ _)
      | (with_reducible exact caesuraref04_Parse.mono _ _)
      | (with_reducible exact caesuraref04_Read.mono _ _ _)
      | (with_reducible exact quote_Parse.mono _ _)
      | (with_reducible exact LeO.refl _)
      | (with_reducible exact LeO.none _)
      | (with_reducible refine LeO.ite ?_ ?_)
      | (with_reducible refine LeO.bind ?_ (fun _ => ?_))
      | exact ih0 _ _ _ _
      | exact caesuralaw04_alive.mono _
      | exact caesuraref01_Ints.mono _ _ _
      | exact caesuraref04_Parse.mono _ _
      | exact caesuraref04_Read.mono _ _ _
      | exact quote_Parse.mono _ _
      | exact LeO.none _
      | refine LeO.ite ?_ ?_
      | refine LeO.bind ?_ (fun _ => ?_)
theorem caesuralaw04_QuoteReads.mono : ∀ a0 a1 a2 k, LeO (caesuralaw04_QuoteReads.f k a0 a1 a2) (caesuralaw04_QuoteReads.f (k + 1) a0 a1 a2) := by
  intro a0 a1 a2 k
  have ih0 := caesuralaw04_QuoteReads.mono_l k
  unfold caesuralaw04_QuoteReads.f
  repeat' first
      | (with_reducible exact ih0 _ _ _ _)
      | (with_reducible exact caesuralaw04_alive.mono _)
      | (with_reducible exact caesuraref01_Ints.mono _ _ _)
      | (with_reducible exact caesuraref04_Parse.mono _ _)
      | (with_reducible exact caesuraref04_Read.mono _ _ _)
      | (with_reducible exact quote_Parse.mono _ _)
      | (with_reducible exact LeO.refl _)
      | (with_reducible exact LeO.none _)
      | (with_reducible refine LeO.ite ?_ ?_)
      | (with_reducible refine LeO.bind ?_ (fun _ => ?_))
      | exact ih0 _ _ _ _
      | exact caesuralaw04_alive.mono _
      | exact caesuraref01_Ints.mono _ _ _
      | exact caesuraref04_Parse.mono _ _
      | exact caesuraref04_Read.mono _ _ _
      | exact quote_Parse.mono _ _
      | exact LeO.none _
      | refine LeO.ite ?_ ?_
      | refine LeO.bind ?_ (fun _ => ?_)
set_option maxHeartbeats 8000000 in
set_option maxRecDepth 100000 in
theorem caesuralaw04_QuoteReads.calls (k : Nat) (A0 : Option Addr) (c0 : Nat) (l0 : List Int) (a1 : Int) (a2 : ByteArray) (r : Bool) (w : World) (hG : GOK w) (hr0 : Kd.C (Kd.int .i64) w A0 l0.length l0) (hc0 : l0.length ≤ c0) (h : caesuralaw04_QuoteReads.f k l0 a1 a2 = some r) :
    Calls Tryd.prog 4 #[.slice A0 l0.length c0, .int .i64 a1, .string a2] w fun e w' => e = .returned (.bool r) ∧ Below w.heap.size w w' := by
  have HR0 := Aside0.mk hr0
  have HC0 := Aside0.mk hc0
  clear hr0 hc0
  have HB := Aside0.mk (Below.refl w.heap.size w)
  have H : ((caesuralaw04_alive.f k).bind fun t195 => (if t195 = true then (if (l0.length : Int) > 1000 then (caesuralaw04_QuoteReads.j0 k l0 a1 a2 true) else (caesuralaw04_QuoteReads.j0 k l0 a1 a2 (decide ((a2.size : Int) > 5000)))) else (none))) = some r := h
  clear h
  replace H := Option.bind_eq_some_iff.mp H
  obtain ⟨t195, A40, H⟩ := H
  replace H : (if t195 = true then (if (l0.length : Int) > 1000 then (caesuralaw04_QuoteReads.j0 k l0 a1 a2 true) else (caesuralaw04_QuoteReads.j0 k l0 a1 a2 (decide ((a2.size : Int) > 5000)))) else (none)) = some r := H
  have A4 := Aside0.mk A40
  clear A40
  by_cases c5 : t195 = true
  · subst c5
    have H1 : (if (l0.length : Int) > 1000 then (caesuralaw04_QuoteReads.j0 k l0 a1 a2 true) else (caesuralaw04_QuoteReads.j0 k l0 a1 a2 (decide ((a2.size : Int) > 5000)))) = some r := by rw [if_pos rfl] at H; exact H
    clear H
    have H := H1
    clear H1
    have HC6 := Aside0.mk H
    clear H
    go_enter Tryd.func4, Tryd.ntmps4
    go_upto_region 3 with (first | ((with_reducible refine gate_callee (f := 8) rfl ?_); refine goesL_ (some 17) rfl rfl Tryd.func8 (by kernel_rfl) rfl #[] rfl (by (try simp only [List.map_toArray, List.map_cons, List.map_nil]); first | done | rfl | (simp only [List.length_drop, List.length_take]; rfl)) ?_; (with_reducible refine (caesuralaw04_alive.calls (hG := ?gok) k  true _ A4.out).mono ?_); (case gok => exact GOK.step hG (by repeat (first | (with_reducible first | exact HB.out | exact Below.refl _ _ | apply below_alloc | apply pw_below_drewN | apply below_drew1) | exact HB.out))); rintro e w7 ⟨rfl, hb⟩; refine ⟨_, rfl, ?_⟩; have n0_ := Aside0.mk (below_step (by repeat (first | (with_reducible first | exact HB.out | apply below_alloc | apply pw_below_drewN | apply below_drew1) | exact HB.out)) hb); clear HB; have HB := n0_; clear n0_; (try clear hb); (try clear hb2); (try clear hk); (try clear hi)))
    (try simp only [Act.put, List.setIfInBounds_toArray, List.set_cons_zero, List.set_cons_succ])
    go_cut [26] (fun v26 wc => ∃ (kq : Nat) (x26_5 : Bool), v26 = .bool x26_5 ∧ Aside0 (caesuralaw04_QuoteReads.j0 kq l0 a1 a2 x26_5 = some r) ∧ Aside0 (kq ≤ k) ∧ Aside0 (Below w.heap.size w wc))
    case first =>
      have H := HC6.out
      clear HC6
      by_cases c8 : (l0.length : Int) > 1000
      · rw [if_pos c8] at H
        have c8b0 : decide (1000 < (l0.length : Int)) = true := decide_eq_true c8
        have c8b1 : decide (1000 < l0.length) = true := decide_eq_true (by omega)
        clear c8
        (first | rw [c8b0] | (simp only [i64_w, i32_w]; rw [c8b0]) | skip)
        have H' := Aside0.mk H
        clear H
        go_wp2
        go_meet
        case rel => exact ⟨_, (true), (by first | rfl | (simp; done) | (simp [*]; done)), H', ⟨by first | omega | exact Nat.le_refl _⟩, ⟨by repeat (first | (with_reducible first | exact HB.out | apply below_alloc | apply pw_below_drewN | apply below_drew1) | exact HB.out)⟩⟩
      · rw [if_neg c8] at H
        have c8b0 : decide (1000 < (l0.length : Int)) = false := decide_eq_false c8
        have c8b1 : decide (1000 < l0.length) = false := decide_eq_false (by omega)
        clear c8
        (first | rw [c8b0] | (simp only [i64_w, i32_w]; rw [c8b0]) | skip)
        have H' := Aside0.mk H
        clear H
        go_wp2
        go_meet
        case rel => exact ⟨_, (decide ((a2.size : Int) > 5000)), (by first | rfl | (simp; done) | (simp [*]; done)), H', ⟨by first | omega | exact Nat.le_refl _⟩, ⟨by repeat (first | (with_reducible first | exact HB.out | apply below_alloc | apply pw_below_drewN | apply below_drew1) | exact HB.out)⟩⟩
    case rest =>
      clear HC6
      try clear p2
      try clear c4
      try clear c5
      try clear c8
      try clear c8b0
      try clear c8b1
      obtain ⟨kq, x26_5, rfl, HA, HJ5, HB⟩ := hcut
      cases kq with
      | zero => exact absurd HA.out (by simp [caesuralaw04_QuoteReads.j0])
      | succ kj5 =>
        have H := HA.out
        clear HA
        simp only [caesuralaw04_QuoteReads.j0] at H
        by_cases c9 : x26_5 = true
        · subst c9
          have H1 : (some true) = some r := by rw [if_pos rfl] at H; exact H
          clear H
          have H := H1
          clear H1
          obtain rfl := Option.some.inj H
          go_wp2
          go_ret
          exact ⟨by first | rfl | (simp [errW_none, errW_some] <;> rfl) | (simp [*, errW_none, errW_some] <;> rfl), by repeat (first | (with_reducible first | exact HB.out | apply below_alloc | apply pw_below_drewN | apply below_drew1) | exact HB.out)⟩
        · replace c9 := Bool.eq_false_iff.mpr c9
          subst c9
          have H1 : ((quote_Read.f l0 a1).bind fun bt196 => ((caesuraref04_Read.f kj5 l0 a1).bind fun bt199 => ((quote_Parse.f kj5 a2).bind fun bt202 => ((caesuraref04_Parse.f kj5 a2).bind fun bt206 => (if bt196.1 = bt199.1 then (if bt196.2.1 = bt199.2.1 then (if bt196.2.2 = bt199.2.2 then ((caesuraref01_Ints.f kj5 bt202.1 bt206.1).bind fun t210 => (if t210 = true then (some (bt202.2 == bt206.2)) else (none))) else (none)) else (none)) else (none)))))) = some r := by rw [if_neg (show ¬ (false = true) by decide)] at H; exact H
          clear H
          have H := H1
          clear H1
          replace H := Option.bind_eq_some_iff.mp H
          obtain ⟨⟨t196, t197, t198⟩, A100, H⟩ := H
          replace H : ((caesuraref04_Read.f kj5 l0 a1).bind fun bt199 => ((quote_Parse.f kj5 a2).bind fun bt202 => ((caesuraref04_Parse.f kj5 a2).bind fun bt206 => (if t196 = bt199.1 then (if t197 = bt199.2.1 then (if t198 = bt199.2.2 then ((caesuraref01_Ints.f kj5 bt202.1 bt206.1).bind fun t210 => (if t210 = true then (some (bt202.2 == bt206.2)) else (none))) else (none)) else (none)) else (none))))) = some r := H
          have A10 := Aside0.mk A100
          clear A100
          replace H := Option.bind_eq_some_iff.mp H
          obtain ⟨⟨t199, t200, t201⟩, A110, H⟩ := H
          replace H : ((quote_Parse.f kj5 a2).bind fun bt202 => ((caesuraref04_Parse.f kj5 a2).bind fun bt206 => (if t196 = t199 then (if t197 = t200 then (if t198 = t201 then ((caesuraref01_Ints.f kj5 bt202.1 bt206.1).bind fun t210 => (if t210 = true then (some (bt202.2 == bt206.2)) else (none))) else (none)) else (none)) else (none)))) = some r := H
          have A11 := Aside0.mk A110
          clear A110
          replace H := Option.bind_eq_some_iff.mp H
          obtain ⟨⟨t202, t203⟩, A120, H⟩ := H
          replace H : ((caesuraref04_Parse.f kj5 a2).bind fun bt206 => (if t196 = t199 then (if t197 = t200 then (if t198 = t201 then ((caesuraref01_Ints.f kj5 t202 bt206.1).bind fun t210 => (if t210 = true then (some (t203 == bt206.2)) else (none))) else (none)) else (none)) else (none))) = some r := H
          have A12 := Aside0.mk A120
          clear A120
          replace H := Option.bind_eq_some_iff.mp H
          obtain ⟨⟨t206, t207⟩, A130, H⟩ := H
          replace H : (if t196 = t199 then (if t197 = t200 then (if t198 = t201 then ((caesuraref01_Ints.f kj5 t202 t206).bind fun t210 => (if t210 = true then (some (t203 == t207)) else (none))) else (none)) else (none)) else (none)) = some r := H
          have A13 := Aside0.mk A130
          clear A130
          by_cases c14 : t196 = t199
          · rw [if_pos c14] at H
            have c14b0 : (t196 == t199) = true := beq_iff_eq.mpr c14
            have c14b1 : (t196 != t199) = false := bne_eq_false_iff_eq.mpr c14
            clear c14
            by_cases c15 : t197 = t200
            · rw [if_pos c15] at H
              have c15b0 : (t197 == t200) = true := beq_iff_eq.mpr c15
              have c15b1 : (t197 != t200) = false := bne_eq_false_iff_eq.mpr c15
              clear c15
              by_cases c16 : t198 = t201
              · rw [if_pos c16] at H
                have c16b0 : (t198 == t201) = true := beq_iff_eq.mpr c16
                have c16b1 : (t198 != t201) = false := bne_eq_false_iff_eq.mpr c16
                clear c16
                replace H := Option.bind_eq_some_iff.mp H
                obtain ⟨t210, A170, H⟩ := H
                replace H : (if t210 = true then (some (t203 == t207)) else (none)) = some r := H
                have A17 := Aside0.mk A170
                clear A170
                by_cases c18 : t210 = true
                · subst c18
                  have H1 : (some (t203 == t207)) = some r := by rw [if_pos rfl] at H; exact H
                  clear H
                  have H := H1
                  clear H1
                  obtain rfl := Option.some.inj H
                  go_wp2_with (first | ((with_reducible refine gate_callee (f := 15) rfl ?_); refine goesL_ (some 30) rfl rfl Tryd.func15 (by kernel_rfl) rfl #[.slice A0 l0.length c0, .int .i64 a1] rfl (by (try simp only [List.map_toArray, List.map_cons, List.map_nil]); first | done | rfl | (simp only [List.length_drop, List.length_take]; rfl)) ?_; (with_reducible refine (quote_Read.calls (hG := ?gok) _ _ l0 a1 t196 t197 t198 _ ?side1 ?side2 A10.out).mono ?_); (case gok => exact GOK.step hG (by repeat (first | (with_reducible first | exact HB.out | exact Below.refl _ _ | apply below_alloc | apply pw_below_drewN | apply below_drew1) | exact HB.out))); (case side1 => repeat (first | exact (Kd.C_below HR0.out HB.out) | (with_reducible refine Kd.C_alloc ?_ _) | (with_reducible refine Kd.C_drewN ?_ _) | (with_reducible refine Kd.C_drew ?_))); (case side2 => exact HC0.out); rintro e w19 ⟨rfl, hb⟩; refine ⟨_, rfl, ?_⟩; have n0_ := Aside0.mk (below_step (by repeat (first | (with_reducible first | exact HB.out | apply below_alloc | apply pw_below_drewN | apply below_drew1) | exact HB.out)) hb); clear HB; have HB := n0_; clear n0_; (try clear hb); (try clear hb2); (try clear hk); (try clear hi)) | ((with_reducible refine gate_callee (f := 16) rfl ?_); refine goesL_ (some 37) rfl rfl Tryd.func16 (by kernel_rfl) rfl #[.slice A0 l0.length c0, .int .i64 a1] rfl (by (try simp only [List.map_toArray, List.map_cons, List.map_nil]); first | done | rfl | (simp only [List.length_drop, List.length_take]; rfl)) ?_; (with_reducible refine (caesuraref04_Read.calls kj5 _ _ l0 a1 t199 t200 t201 _ ?side1 ?side2 A11.out).mono ?_); (case side1 => repeat (first | exact (Kd.C_below HR0.out HB.out) | (with_reducible refine Kd.C_alloc ?_ _) | (with_reducible refine Kd.C_drewN ?_ _) | (with_reducible refine Kd.C_drew ?_))); (case side2 => exact HC0.out); rintro e w' ⟨rfl, ⟨nd, rfl⟩⟩; refine ⟨_, rfl, ?_⟩) | ((with_reducible refine gate_callee (f := 17) rfl ?_); refine goesL_ (some 43) rfl rfl Tryd.func17 (by kernel_rfl) rfl #[.string a2] rfl (by (try simp only [List.map_toArray, List.map_cons, List.map_nil]); first | done | rfl | (simp only [List.length_drop, List.length_take]; rfl)) ?_; (with_reducible refine (quote_Parse.calls (hG := ?gok) kj5 a2 t202 t203 _ A12.out).mono ?_); (case gok => exact GOK.step hG (by repeat (first | (with_reducible first | exact HB.out | exact Below.refl _ _ | apply below_alloc | apply pw_below_drewN | apply below_drew1) | exact HB.out))); rintro e w20 ⟨v204, rfl, ho0, hb⟩; refine ⟨_, rfl, ?_⟩; have n0_ := Aside0.mk (Kd.R_lower ho0 (below_size (by repeat (first | (with_reducible first | exact HB.out | apply below_alloc | apply pw_below_drewN | apply below_drew1) | exact HB.out)))); have n1_ := Aside0.mk (below_step (by repeat (first | (with_reducible first | exact HB.out | apply below_alloc | apply pw_below_drewN | apply below_drew1) | exact HB.out)) hb); clear HB; have HO205 := n0_; have HB := n1_; clear n0_ n1_; (try clear hb); (try clear hb2); (try clear hk); (try clear hi); (try clear ho0)) | ((with_reducible refine gate_callee (f := 18) rfl ?_); refine goesL_ (some 48) rfl rfl Tryd.func18 (by kernel_rfl) rfl #[.string a2] rfl (by (try simp only [List.map_toArray, List.map_cons, List.map_nil]); first | done | rfl | (simp only [List.length_drop, List.length_take]; rfl)) ?_; (with_reducible refine (caesuraref04_Parse.calls kj5 a2 t206 t207 _ A13.out).mono ?_); rintro e w21 ⟨v208, rfl, ho0, hb⟩; refine ⟨_, rfl, ?_⟩; have n0_ := Aside0.mk (Kd.R_elder' (by (with_reducible repeat (first | apply Kd.R_alloc | apply Kd.R_drewN | apply Kd.R_drew)); exact HO205.out) (Kd.R_base ho0) hb); have n1_ := Aside0.mk (Kd.R_lower (Kd.R_new' ho0 (Kd.R_lt (by (with_reducible repeat (first | apply Kd.R_alloc | apply Kd.R_drewN | apply Kd.R_drew)); exact HO205.out))) (below_size (by repeat (first | (with_reducible first | exact HB.out | apply below_alloc | apply pw_below_drewN | apply below_drew1) | exact HB.out)))); have n2_ := Aside0.mk (below_step (by repeat (first | (with_reducible first | exact HB.out | apply below_alloc | apply pw_below_drewN | apply below_drew1) | exact HB.out)) hb); clear HO205; clear HB; have HO205 := n0_; have HO209 := n1_; have HB := n2_; clear n0_ n1_ n2_; (try clear hb); (try clear hb2); (try clear hk); (try clear hi); (try clear ho0); obtain ⟨Ao22, co22, eo22⟩ := Kd.R_slice HO205.out; subst eo22; obtain ⟨Ao23, co23, eo23⟩ := Kd.R_slice HO209.out; subst eo23) | (go_at_call 19; (with_reducible refine (caesuraref01_Ints.calls kj5 _ _ t202 _ _ t206 true _ ?side1 ?side2 ?side3 ?side4 A17.out).mono ?_); (case side1 => repeat (first | exact (Kd.R_reads' HO205.out).2.2 | (with_reducible refine Kd.C_alloc ?_ _) | (with_reducible refine Kd.C_drewN ?_ _) | (with_reducible refine Kd.C_drew ?_))); (case side2 => exact (Kd.R_reads' HO205.out).2.1); (case side3 => repeat (first | exact (Kd.R_reads' HO209.out).2.2 | (with_reducible refine Kd.C_alloc ?_ _) | (with_reducible refine Kd.C_drewN ?_ _) | (with_reducible refine Kd.C_drew ?_))); (case side4 => exact (Kd.R_reads' HO209.out).2.1); rintro e w' ⟨rfl, ⟨nd, rfl⟩⟩))
                  go_ret
                  exact ⟨by first | rfl | (simp [errW_none, errW_some] <;> rfl) | (simp [*, errW_none, errW_some] <;> rfl), by repeat (first | (with_reducible first | exact HB.out | apply below_alloc | apply pw_below_drewN | apply below_drew1) | exact HB.out)⟩
                · replace c18 := Bool.eq_false_iff.mpr c18
                  subst c18
                  have H1 : (none) = some r := by rw [if_neg (show ¬ (false = true) by decide)] at H; exact H
                  clear H
                  have H := H1
                  clear H1
                  exact absurd H (by simp)
              · rw [if_neg c16] at H
                exact absurd H (by simp)
            · rw [if_neg c15] at H
              exact absurd H (by simp)
          · rw [if_neg c14] at H
            exact absurd H (by simp)
  · replace c5 := Bool.eq_false_iff.mpr c5
    subst c5
    have H1 : (none) = some r := by rw [if_neg (show ¬ (false = true) by decide)] at H; exact H
    clear H
    have H := H1
    clear H1
    exact absurd H (by simp)

end Go.Proofs.YtdkcdgfjjppidaaDoor.XA
