/- The card of NoteLines holds: a report of two lists, one behind the other, is both's; each line says its kind. -/
import Derived.Test.YtlenlhnpmblicaaGreatDoorZN1
import Derived.Test.YtlenlhnpmblicaaGreatDoorZN4
import Derived.Test.YtlenlhnpmblicaaGreatDoorZN5
import Derived.Test.YtlenlhnpmblicaaGreatDoorZN6
section
set_option linter.unusedVariables false
set_option linter.unusedSimpArgs false
namespace Go.Proofs.YtlenlhnpmblicaaGreatDoor.XA
open Go.RowKit Go.Proofs.YtlenlhnpmblicaaGreatDoorW.PrintWords Go.Proofs.YtlenlhnpmblicaaGreatDoorW.PrintLast Go.Proofs.YtlenlhnpmblicaaGreatDoorW.PrintMore
attribute [local go_sem] max2_int min2_int max_two min_two max_three min_three max_four min_four   -- for this text's walks alone
set_option linter.unusedVariables false
set_option linter.unusedSimpArgs false
mutual
def caesuralaw27_NoteLines.j0 : Nat → List (S32) → List (S32) → Bool → Option (Bool)
  | 0, _, _, _ => none
  | k + 1, x0, x1, x30 => if x30 = true then (some true) else ((note_Text.f x0).bind fun bt224 => ((note_Text.f x1).bind fun bt226 => ((some (([] : List (S32)) : List (S32))).bind fun y228 => (if y228.length + x0.length < 1759218604441 then ((some (y228 ++ x0 : List (S32))).bind fun y231 => (if y231.length + x1.length < 1759218604441 then ((note_Text.f (y231 ++ x1)).bind fun bt237 => (if bt224.2 = 0 then (caesuralaw27_NoteLines.j1 k x0 bt224.1 bt226.1 bt237.1 bt237.2 (bt226.2 != 0)) else (caesuralaw27_NoteLines.j1 k x0 bt224.1 bt226.1 bt237.1 bt237.2 true))) else (none))) else (none)))))
def caesuralaw27_NoteLines.j1 : Nat → List (S32) → ByteArray → ByteArray → ByteArray → Int → Bool → Option (Bool)
  | 0, _, _, _, _, _, _ => none
  | k + 1, x0, x5, x7, x9, x10, x55 => if x55 = true then (if x10 = 1 then (some (x9.toList == ([] : List UInt8))) else (none)) else (caesuralaw27_NoteLines.l0 k x0 x5 x7 x9 x10 0)
def caesuralaw27_NoteLines.l0 : Nat → List (S32) → ByteArray → ByteArray → ByteArray → Int → Int → Option (Bool)
  | 0, _, _, _, _, _, _ => none
  | k + 1, x0, x5, x7, x9, x10, x11 => if x11 < (x0.length : Int) then (if 0 ≤ x11 then ((note_Line.f ((rd_T32 x0 x11).f0) ((rd_T32 x0 x11).f1) ((rd_T32 x0 x11).f2) ((rd_T32 x0 x11).f3) ((rd_T32 x0 x11).f4) ((rd_T32 x0 x11).f5.f0) ((rd_T32 x0 x11).f5.f1)).bind fun bt240 => ((note_Word.f ((rd_T32 x0 x11).f0)).bind fun t243 => (if (rd_T32 x0 x11).f4 = true then (if 8 + t243.size ≤ 9223372036854775807 then (if bt240.2 = 0 then (if (bt240.1.size : Int) ≤ (((⟨#[97, 108, 108, 111, 119, 101, 100, 32]⟩ : ByteArray) ++ t243).size : Int) then (none) else (if 0 ≤ (((⟨#[97, 108, 108, 111, 119, 101, 100, 32]⟩ : ByteArray) ++ t243).size : Int) then (if (((⟨#[97, 108, 108, 111, 119, 101, 100, 32]⟩ : ByteArray) ++ t243).size : Int) ≤ (bt240.1.size : Int) then (if (bt240.1.extract 0 ((((⟨#[97, 108, 108, 111, 119, 101, 100, 32]⟩ : ByteArray) ++ t243).size : Int) : Int).toNat).toList = ((⟨#[97, 108, 108, 111, 119, 101, 100, 32]⟩ : ByteArray) ++ t243).toList then (if (((⟨#[97, 108, 108, 111, 119, 101, 100, 32]⟩ : ByteArray) ++ t243).size : Int) < (bt240.1.size : Int) then (if (bt bt240.1 (((⟨#[97, 108, 108, 111, 119, 101, 100, 32]⟩ : ByteArray) ++ t243).size : Int)) = 32 then (caesuralaw27_NoteLines.l0 k x0 x5 x7 x9 x10 (wrap64 (x11 + 1))) else (none)) else (none)) else (none)) else (none)) else (none))) else (none)) else (none)) else (if bt240.2 = 0 then (if (bt240.1.size : Int) ≤ (t243.size : Int) then (none) else (if 0 ≤ (t243.size : Int) then (if (t243.size : Int) ≤ (bt240.1.size : Int) then (if (bt240.1.extract 0 ((t243.size : Int) : Int).toNat).toList = t243.toList then (if (t243.size : Int) < (bt240.1.size : Int) then (if (bt bt240.1 (t243.size : Int)) = 32 then (caesuralaw27_NoteLines.l0 k x0 x5 x7 x9 x10 (wrap64 (x11 + 1))) else (none)) else (none)) else (none)) else (none)) else (none))) else (none))))) else (none)) else (if x10 = 0 then (if x5.size + x7.size ≤ 9223372036854775807 then (some (x9.toList == (x5 ++ x7).toList)) else (none)) else (none))
end
def caesuralaw27_NoteLines.f (k : Nat) (l0 : List (S32)) (l1 : List (S32)) : Option (Bool) := (caesuralaw27_alive.f).bind fun t221 => (if t221 = true then ((caesuraref27_Great.f k l0 1500).bind fun t222 => (if t222 = true then (caesuralaw27_NoteLines.j0 k l0 l1 true) else ((caesuraref27_Great.f k l1 1500).bind fun t223 => (if t223 = true then (caesuralaw27_NoteLines.j0 k l0 l1 true) else (caesuralaw27_NoteLines.j0 k l0 l1 (decide ((wrap64 ((l0.length : Int) + (l1.length : Int))) > 1000))))))) else (none))
theorem caesuralaw27_NoteLines.mono_l : ∀ k, (∀ y0 y1 y2, LeO (caesuralaw27_NoteLines.j0 k y0 y1 y2) (caesuralaw27_NoteLines.j0 (k + 1) y0 y1 y2)) ∧ (∀ y0 y1 y2 y3 y4 y5, LeO (caesuralaw27_NoteLines.j1 k y0 y1 y2 y3 y4 y5) (caesuralaw27_NoteLines.j1 (k + 1) y0 y1 y2 y3 y4 y5)) ∧ (∀ y0 y1 y2 y3 y4 y5, LeO (caesuralaw27_NoteLines.l0 k y0 y1 y2 y3 y4 y5) (caesuralaw27_NoteLines.l0 (k + 1) y0 y1 y2 y3 y4 y5))
  | 0 => ⟨fun _ _ _ r h => by simp [caesuralaw27_NoteLines.j0] at h, fun _ _ _ _ _ _ r h => by simp [caesuralaw27_NoteLines.j1] at h, fun _ _ _ _ _ _ r h => by simp [caesuralaw27_NoteLines.l0] at h⟩
  | k + 1 => by
    obtain ⟨ih0, ih1, ih2⟩ := caesuralaw27_NoteLines.mono_l k
    refine ⟨?_, ?_, ?_⟩
    · intro y0 y1 y2
      unfold caesuralaw27_NoteLines.j0
      repeat' first
      | (with_reducible exact ih0 _ _ _)
      | (with_reducible exact ih1 _ _ _ _ _ _)
      | (with_reducible exact ih2 _ _ _ _ _ _)
      | (with_reducible exact caesuraref27_Great.mono _ _ _)
      | (with_reducible exact LeO.refl _)
      | (with_reducible exact LeO.none _)
      | (with_reducible refine LeO.ite ?_ ?_)
      | (with_reducible refine LeO.bind ?_ (fun _ => ?_))
      | exact ih0 _ _ _
      | exact ih1 _ _ _ _ _ _
      | exact ih2 _ _ _ _ _ _
      | exact caesuraref27_Great.mono _ _ _
      | exact LeO.none _
      | refine LeO.ite ?_ ?_
      | refine LeO.bind ?_ (fun _ => ?_)
    · intro y0 y1 y2 y3 y4 y5
      unfold caesuralaw27_NoteLines.j1
      repeat' first
      | (with_reducible exact ih0 _ _ _)
      | (with_reducible exact ih1 _ _ _ _ _ _)
      | (with_reducible exact ih2 _ _ _ _ _ _)
      | (with_reducible exact caesuraref27_Great.mono _ _ _)
      | (with_reducible exact LeO.refl _)
      | (with_reducible exact LeO.none _)
      | (with_reducible refine LeO.ite ?_ ?_)
      | (with_reducible refine LeO.bind ?_ (fun _ => ?_))
      | exact ih0 _ _ _
      | exact ih1 _ _ _ _ _ _
      | exact ih2 _ _ _ _ _ _
      | exact caesuraref27_Great.mono _ _ _
      | exact LeO.none _
      | refine LeO.ite ?_ ?_
      | refine LeO.bind ?_ (fun _ => ?_)
    · intro y0 y1 y2 y3 y4 y5
      unfold caesuralaw27_NoteLines.l0
      repeat' first
      | (with_reducible exact ih0 _ _ _)
      | (with_reducible exact ih1 _ _ _ _ _ _)
      | (with_reducible exact ih2 _ _ _ _ _ _)
      | (with_reducible exact caesuraref27_Great.mono _ _ _)
      | (with_reducible exact LeO.refl _)
      | (with_reducible exact LeO.none _)
      | (with_reducible refine LeO.ite ?_ ?_)
      | (with_reducible refine LeO.bind ?_ (fun _ => ?_))
      | exact ih0 _ _ _
      | exact ih1 _ _ _ _ _ _
      | exact ih2 _ _ _ _ _ _
      | exact caesuraref27_Great.mono _ _ _
      | exact LeO.none _
      | refine LeO.ite ?_ ?_
      | refine LeO.bind ?_ (fun _ => ?_)
theorem caesuralaw27_NoteLines.mono : ∀ a0 a1 k, LeO (caesuralaw27_NoteLines.f k a0 a1) (caesuralaw27_NoteLines.f (k + 1) a0 a1) := by
  intro a0 a1 k
  obtain ⟨ih0, ih1, ih2⟩ := caesuralaw27_NoteLines.mono_l k
  unfold caesuralaw27_NoteLines.f
  repeat' first
      | (with_reducible exact ih0 _ _ _)
      | (with_reducible exact ih1 _ _ _ _ _ _)
      | (with_reducible exact ih2 _ _ _ _ _ _)
      | (with_reducible exact caesuraref27_Great.mono _ _ _)
      | (with_reducible exact LeO.refl _)
      | (with_reducible exact LeO.none _)
      | (with_reducible refine LeO.ite ?_ ?_)
      | (with_reducible refine LeO.bind ?_ (fun _ => ?_))
      | exact ih0 _ _ _
      | exact ih1 _ _ _ _ _ _
      | exact ih2 _ _ _ _ _ _
      | exact caesuraref27_Great.mono _ _ _
      | exact LeO.none _
      | refine LeO.ite ?_ ?_
      | refine LeO.bind ?_ (fun _ => ?_)
set_option maxHeartbeats 8000000 in
set_option maxRecDepth 100000 in
theorem caesuralaw27_NoteLines.calls (k : Nat) (P0_ : Nat → Prop) (A0 : Option Addr) (c0 : Nat) (l0 : List (S32)) (P1_ : Nat → Prop) (A1 : Option Addr) (c1 : Nat) (l1 : List (S32)) (r : Bool) (w : World) (hG : GOK w) (hs0 : Kd.V k32 32 w w.heap.size (fun k_ => P0_ k_) (.slice A0 l0.length c0) l0) (hs1 : Kd.V k32 32 w w.heap.size (fun k_ => P1_ k_) (.slice A1 l1.length c1) l1) (h : caesuralaw27_NoteLines.f k l0 l1 = some r) :
    Calls Tryz.prog 7 #[.slice A0 l0.length c0, .slice A1 l1.length c1] w fun e w' => e = .returned (.bool r) ∧ Below w.heap.size w w' := by
  have hu32 := Tryz.underlying32
  have HO0 := Aside0.mk (show Kd.V k32 32 w w.heap.size (fun k_ => ((P0_ k_ ∨ P1_ k_) ∨ w.heap.size ≤ k_)) (.slice A0 l0.length c0) l0 from Kd.V_mono hs0 (fun k_ hk => .inl (.inl hk)))
  have HO1 := Aside0.mk (show Kd.V k32 32 w w.heap.size (fun k_ => ((P0_ k_ ∨ P1_ k_) ∨ w.heap.size ≤ k_)) (.slice A1 l1.length c1) l1 from Kd.V_mono hs1 (fun k_ hk => .inl (.inr hk)))
  have HB := Aside0.mk (Below.refl w.heap.size w)
  have H : ((caesuralaw27_alive.f).bind fun t221 => (if t221 = true then ((caesuraref27_Great.f k l0 1500).bind fun t222 => (if t222 = true then (caesuralaw27_NoteLines.j0 k l0 l1 true) else ((caesuraref27_Great.f k l1 1500).bind fun t223 => (if t223 = true then (caesuralaw27_NoteLines.j0 k l0 l1 true) else (caesuralaw27_NoteLines.j0 k l0 l1 (decide ((wrap64 ((l0.length : Int) + (l1.length : Int))) > 1000))))))) else (none))) = some r := h
  clear h
  replace H := Option.bind_eq_some_iff.mp H
  obtain ⟨t221, A30, H⟩ := H
  replace H : (if t221 = true then ((caesuraref27_Great.f k l0 1500).bind fun t222 => (if t222 = true then (caesuralaw27_NoteLines.j0 k l0 l1 true) else ((caesuraref27_Great.f k l1 1500).bind fun t223 => (if t223 = true then (caesuralaw27_NoteLines.j0 k l0 l1 true) else (caesuralaw27_NoteLines.j0 k l0 l1 (decide ((wrap64 ((l0.length : Int) + (l1.length : Int))) > 1000))))))) else (none)) = some r := H
  have A3 := Aside0.mk A30
  clear A30
  by_cases c4 : t221 = true
  · subst c4
    have H1 : ((caesuraref27_Great.f k l0 1500).bind fun t222 => (if t222 = true then (caesuralaw27_NoteLines.j0 k l0 l1 true) else ((caesuraref27_Great.f k l1 1500).bind fun t223 => (if t223 = true then (caesuralaw27_NoteLines.j0 k l0 l1 true) else (caesuralaw27_NoteLines.j0 k l0 l1 (decide ((wrap64 ((l0.length : Int) + (l1.length : Int))) > 1000))))))) = some r := by rw [if_pos rfl] at H; exact H
    clear H
    have H := H1
    clear H1
    have HC5 := Aside0.mk H
    clear H
    go_enter Tryz.func7, Tryz.ntmps7
    go_upto_region 3 with (first | ((with_reducible refine gate_callee (f := 9) rfl ?_); refine goesL_ (some 15) rfl rfl Tryz.func9 (by kernel_rfl) rfl #[] rfl (by (try simp only [List.map_toArray, List.map_cons, List.map_nil]); first | done | rfl | (simp only [List.length_drop, List.length_take]; rfl)) ?_; (with_reducible refine (caesuralaw27_alive.calls (hG := ?gok)  true _ A3.out).mono ?_); (case gok => exact GOK.step hG (by repeat (first | (with_reducible first | exact HB.out | exact Below.refl _ _ | apply below_alloc | apply pw_below_drewN | apply below_drew1) | exact HB.out))); rintro e w6 ⟨rfl, hb⟩; refine ⟨_, rfl, ?_⟩; have n0_ := Aside0.mk (Kd.V_below (by (with_reducible repeat (first | apply Kd.V_alloc | apply Kd.V_drewN | apply Kd.V_drew)); exact HO0.out) hb); have n1_ := Aside0.mk (Kd.V_below (by (with_reducible repeat (first | apply Kd.V_alloc | apply Kd.V_drewN | apply Kd.V_drew)); exact HO1.out) hb); have n2_ := Aside0.mk (below_step (by repeat (first | (with_reducible first | exact HB.out | apply below_alloc | apply pw_below_drewN | apply below_drew1) | exact HB.out)) hb); clear HO0; clear HO1; clear HB; have HO0 := n0_; have HO1 := n1_; have HB := n2_; clear n0_ n1_ n2_; (try clear hb); (try clear hb2); (try clear hk); (try clear hi)))
    (try simp only [Act.put, List.setIfInBounds_toArray, List.set_cons_zero, List.set_cons_succ])
    go_cut [30] (fun v30 wc => ∃ (kq : Nat) (x30_4 : Bool), v30 = .bool x30_4 ∧ Aside0 (caesuralaw27_NoteLines.j0 kq l0 l1 x30_4 = some r) ∧ Aside0 (kq ≤ k) ∧ Aside0 (Kd.V k32 32 wc w.heap.size (fun k_ => ((P0_ k_ ∨ P1_ k_) ∨ w.heap.size ≤ k_)) (.slice A0 l0.length c0) l0) ∧ Aside0 (Kd.V k32 32 wc w.heap.size (fun k_ => ((P0_ k_ ∨ P1_ k_) ∨ w.heap.size ≤ k_)) (.slice A1 l1.length c1) l1) ∧ Aside0 (Below w.heap.size w wc))
    case first =>
      have H := HC5.out
      clear HC5
      replace H := Option.bind_eq_some_iff.mp H
      obtain ⟨t222, A70, H⟩ := H
      replace H : (if t222 = true then (caesuralaw27_NoteLines.j0 k l0 l1 true) else ((caesuraref27_Great.f k l1 1500).bind fun t223 => (if t223 = true then (caesuralaw27_NoteLines.j0 k l0 l1 true) else (caesuralaw27_NoteLines.j0 k l0 l1 (decide ((wrap64 ((l0.length : Int) + (l1.length : Int))) > 1000)))))) = some r := H
      have A7 := Aside0.mk A70
      clear A70
      by_cases c8 : t222 = true
      · subst c8
        have H1 : (caesuralaw27_NoteLines.j0 k l0 l1 true) = some r := by rw [if_pos rfl] at H; exact H
        clear H
        have H := H1
        clear H1
        have H' := Aside0.mk H
        clear H
        go_wp2_with (first | ((with_reducible refine gate_callee (f := 10) rfl ?_); refine goesL_ (some 18) rfl rfl Tryz.func10 (by kernel_rfl) rfl #[.slice A0 l0.length c0, .int .i64 1500] rfl (by (try simp only [List.map_toArray, List.map_cons, List.map_nil]); first | done | rfl | (simp only [List.length_drop, List.length_take]; rfl)) ?_; (with_reducible refine (caesuraref27_Great.calls k _ _ l0 1500 true _ ?side1 ?side2 A7.out).mono ?_); (case side1 => repeat (first | exact (Kd.V_reads' HO0.out).2.2 | (with_reducible refine Kd.C_alloc ?_ _) | (with_reducible refine Kd.C_drewN ?_ _) | (with_reducible refine Kd.C_drew ?_))); (case side2 => exact (Kd.V_reads' HO0.out).2.1); rintro e w' ⟨rfl, ⟨nd, rfl⟩⟩; refine ⟨_, rfl, ?_⟩))
        go_meet
        case rel => exact ⟨_, (true), (by first | rfl | (simp; done) | (simp [*]; done)), H', ⟨by first | omega | exact Nat.le_refl _⟩, ⟨by (with_reducible repeat (first | apply Kd.V_alloc | apply Kd.V_drewN | apply Kd.V_drew)); exact HO0.out⟩, ⟨by (with_reducible repeat (first | apply Kd.V_alloc | apply Kd.V_drewN | apply Kd.V_drew)); exact HO1.out⟩, ⟨by repeat (first | (with_reducible first | exact HB.out | apply below_alloc | apply pw_below_drewN | apply below_drew1) | exact HB.out)⟩⟩
      · replace c8 := Bool.eq_false_iff.mpr c8
        subst c8
        have H1 : ((caesuraref27_Great.f k l1 1500).bind fun t223 => (if t223 = true then (caesuralaw27_NoteLines.j0 k l0 l1 true) else (caesuralaw27_NoteLines.j0 k l0 l1 (decide ((wrap64 ((l0.length : Int) + (l1.length : Int))) > 1000))))) = some r := by rw [if_neg (show ¬ (false = true) by decide)] at H; exact H
        clear H
        have H := H1
        clear H1
        replace H := Option.bind_eq_some_iff.mp H
        obtain ⟨t223, A90, H⟩ := H
        replace H : (if t223 = true then (caesuralaw27_NoteLines.j0 k l0 l1 true) else (caesuralaw27_NoteLines.j0 k l0 l1 (decide ((wrap64 ((l0.length : Int) + (l1.length : Int))) > 1000)))) = some r := H
        have A9 := Aside0.mk A90
        clear A90
        by_cases c10 : t223 = true
        · subst c10
          have H1 : (caesuralaw27_NoteLines.j0 k l0 l1 true) = some r := by rw [if_pos rfl] at H; exact H
          clear H
          have H := H1
          clear H1
          have H' := Aside0.mk H
          clear H
          go_wp2_with (first | ((with_reducible refine gate_callee (f := 10) rfl ?_); refine goesL_ (some 18) rfl rfl Tryz.func10 (by kernel_rfl) rfl #[.slice A0 l0.length c0, .int .i64 1500] rfl (by (try simp only [List.map_toArray, List.map_cons, List.map_nil]); first | done | rfl | (simp only [List.length_drop, List.length_take]; rfl)) ?_; (with_reducible refine (caesuraref27_Great.calls k _ _ l0 1500 false _ ?side1 ?side2 A7.out).mono ?_); (case side1 => repeat (first | exact (Kd.V_reads' HO0.out).2.2 | (with_reducible refine Kd.C_alloc ?_ _) | (with_reducible refine Kd.C_drewN ?_ _) | (with_reducible refine Kd.C_drew ?_))); (case side2 => exact (Kd.V_reads' HO0.out).2.1); rintro e w' ⟨rfl, ⟨nd, rfl⟩⟩; refine ⟨_, rfl, ?_⟩) | (go_at_call 10; (with_reducible refine (caesuraref27_Great.calls k _ _ l1 1500 true _ ?side1 ?side2 A9.out).mono ?_); (case side1 => repeat (first | exact (Kd.V_reads' HO1.out).2.2 | (with_reducible refine Kd.C_alloc ?_ _) | (with_reducible refine Kd.C_drewN ?_ _) | (with_reducible refine Kd.C_drew ?_))); (case side2 => exact (Kd.V_reads' HO1.out).2.1); rintro e w' ⟨rfl, ⟨nd, rfl⟩⟩))
          go_meet
          case rel => exact ⟨_, (true), (by first | rfl | (simp; done) | (simp [*]; done)), H', ⟨by first | omega | exact Nat.le_refl _⟩, ⟨by (with_reducible repeat (first | apply Kd.V_alloc | apply Kd.V_drewN | apply Kd.V_drew)); exact HO0.out⟩, ⟨by (with_reducible repeat (first | apply Kd.V_alloc | apply Kd.V_drewN | apply Kd.V_drew)); exact HO1.out⟩, ⟨by repeat (first | (with_reducible first | exact HB.out | apply below_alloc | apply pw_below_drewN | apply below_drew1) | exact HB.out)⟩⟩
        · replace c10 := Bool.eq_false_iff.mpr c10
          subst c10
          have H1 : (caesuralaw27_NoteLines.j0 k l0 l1 (decide ((wrap64 ((l0.length : Int) + (l1.length : Int))) > 1000))) = some r := by rw [if_neg (show ¬ (false = true) by decide)] at H; exact H
          clear H
          have H := H1
          clear H1
          have H' := Aside0.mk H
          clear H
          go_wp2_with (first | ((with_reducible refine gate_callee (f := 10) rfl ?_); refine goesL_ (some 18) rfl rfl Tryz.func10 (by kernel_rfl) rfl #[.slice A0 l0.length c0, .int .i64 1500] rfl (by (try simp only [List.map_toArray, List.map_cons, List.map_nil]); first | done | rfl | (simp only [List.length_drop, List.length_take]; rfl)) ?_; (with_reducible refine (caesuraref27_Great.calls k _ _ l0 1500 false _ ?side1 ?side2 A7.out).mono ?_); (case side1 => repeat (first | exact (Kd.V_reads' HO0.out).2.2 | (with_reducible refine Kd.C_alloc ?_ _) | (with_reducible refine Kd.C_drewN ?_ _) | (with_reducible refine Kd.C_drew ?_))); (case side2 => exact (Kd.V_reads' HO0.out).2.1); rintro e w' ⟨rfl, ⟨nd, rfl⟩⟩; refine ⟨_, rfl, ?_⟩) | (go_at_call 10; (with_reducible refine (caesuraref27_Great.calls k _ _ l1 1500 false _ ?side1 ?side2 A9.out).mono ?_); (case side1 => repeat (first | exact (Kd.V_reads' HO1.out).2.2 | (with_reducible refine Kd.C_alloc ?_ _) | (with_reducible refine Kd.C_drewN ?_ _) | (with_reducible refine Kd.C_drew ?_))); (case side2 => exact (Kd.V_reads' HO1.out).2.1); rintro e w' ⟨rfl, ⟨nd, rfl⟩⟩))
          go_meet
          case rel => exact ⟨_, (decide ((wrap64 ((l0.length : Int) + (l1.length : Int))) > 1000)), (by first | rfl | (simp; done) | (simp [*]; done)), H', ⟨by first | omega | exact Nat.le_refl _⟩, ⟨by (with_reducible repeat (first | apply Kd.V_alloc | apply Kd.V_drewN | apply Kd.V_drew)); exact HO0.out⟩, ⟨by (with_reducible repeat (first | apply Kd.V_alloc | apply Kd.V_drewN | apply Kd.V_drew)); exact HO1.out⟩, ⟨by repeat (first | (with_reducible first | exact HB.out | apply below_alloc | apply pw_below_drewN | apply below_drew1) | exact HB.out)⟩⟩
    case rest =>
      clear HC5
      try clear c1
      try clear p2
      try clear c4
      try clear p6
      try clear c7
      try clear c8
      try clear c9
      try clear c10
      obtain ⟨kq, x30_4, rfl, HA, HJ4, HO_0, HO_1, HB⟩ := hcut
      cases kq with
      | zero => exact absurd HA.out (by simp [caesuralaw27_NoteLines.j0])
      | succ kj4 =>
        have H := HA.out
        clear HA
        simp only [caesuralaw27_NoteLines.j0] at H
        by_cases c11 : x30_4 = true
        · subst c11
          have H1 : (some true) = some r := by rw [if_pos rfl] at H; exact H
          clear H
          have H := H1
          clear H1
          obtain rfl := Option.some.inj H
          go_wp2
          go_ret
          exact ⟨by first | rfl | (simp [errW_none, errW_some] <;> rfl) | (simp [*, errW_none, errW_some] <;> rfl), by repeat (first | (with_reducible first | exact HB.out | apply below_alloc | apply pw_below_drewN | apply below_drew1) | exact HB.out)⟩
        · replace c11 := Bool.eq_false_iff.mpr c11
          subst c11
          have H1 : ((note_Text.f l0).bind fun bt224 => ((note_Text.f l1).bind fun bt226 => ((some (([] : List (S32)) : List (S32))).bind fun y228 => (if y228.length + l0.length < 1759218604441 then ((some (y228 ++ l0 : List (S32))).bind fun y231 => (if y231.length + l1.length < 1759218604441 then ((note_Text.f (y231 ++ l1)).bind fun bt237 => (if bt224.2 = 0 then (caesuralaw27_NoteLines.j1 kj4 l0 bt224.1 bt226.1 bt237.1 bt237.2 (bt226.2 != 0)) else (caesuralaw27_NoteLines.j1 kj4 l0 bt224.1 bt226.1 bt237.1 bt237.2 true))) else (none))) else (none))))) = some r := by rw [if_neg (show ¬ (false = true) by decide)] at H; exact H
          clear H
          have H := H1
          clear H1
          replace H := Option.bind_eq_some_iff.mp H
          obtain ⟨⟨t224, t225⟩, A120, H⟩ := H
          replace H : ((note_Text.f l1).bind fun bt226 => ((some (([] : List (S32)) : List (S32))).bind fun y228 => (if y228.length + l0.length < 1759218604441 then ((some (y228 ++ l0 : List (S32))).bind fun y231 => (if y231.length + l1.length < 1759218604441 then ((note_Text.f (y231 ++ l1)).bind fun bt237 => (if t225 = 0 then (caesuralaw27_NoteLines.j1 kj4 l0 t224 bt226.1 bt237.1 bt237.2 (bt226.2 != 0)) else (caesuralaw27_NoteLines.j1 kj4 l0 t224 bt226.1 bt237.1 bt237.2 true))) else (none))) else (none)))) = some r := H
          have A12 := Aside0.mk A120
          clear A120
          replace H := Option.bind_eq_some_iff.mp H
          obtain ⟨⟨t226, t227⟩, A130, H⟩ := H
          replace H : ((some (([] : List (S32)) : List (S32))).bind fun y228 => (if y228.length + l0.length < 1759218604441 then ((some (y228 ++ l0 : List (S32))).bind fun y231 => (if y231.length + l1.length < 1759218604441 then ((note_Text.f (y231 ++ l1)).bind fun bt237 => (if t225 = 0 then (caesuralaw27_NoteLines.j1 kj4 l0 t224 t226 bt237.1 bt237.2 (t227 != 0)) else (caesuralaw27_NoteLines.j1 kj4 l0 t224 t226 bt237.1 bt237.2 true))) else (none))) else (none))) = some r := H
          have A13 := Aside0.mk A130
          clear A130
          obtain ⟨y228, hy228⟩ : ∃ y_ : List (S32), y_ = (([] : List (S32))) := ⟨_, rfl⟩
          replace H : (if y228.length + l0.length < 1759218604441 then ((some (y228 ++ l0 : List (S32))).bind fun y231 => (if y231.length + l1.length < 1759218604441 then ((note_Text.f (y231 ++ l1)).bind fun bt237 => (if t225 = 0 then (caesuralaw27_NoteLines.j1 kj4 l0 t224 t226 bt237.1 bt237.2 (t227 != 0)) else (caesuralaw27_NoteLines.j1 kj4 l0 t224 t226 bt237.1 bt237.2 true))) else (none))) else (none)) = some r := by first | (rw [hy228]; with_reducible exact H) | (have H2_ := (Option.bind_some _ _).symm.trans H; rw [hy228]; with_reducible exact H2_) | (have H2_ := (Option.bind_some _ _).symm.trans H; with_reducible exact H2_) | with_reducible exact H | (rw [hy228]; exact H) | exact H
          have Ny228 := Aside0.mk hy228
          clear hy228
          by_cases c14 : y228.length + l0.length < 1759218604441
          · rw [if_pos c14] at H
            have LMc14 := Aside0.mk c14
            clear c14
            obtain ⟨y231, hy231⟩ : ∃ y_ : List (S32), y_ = (y228 ++ l0) := ⟨_, rfl⟩
            replace H : (if y231.length + l1.length < 1759218604441 then ((note_Text.f (y231 ++ l1)).bind fun bt237 => (if t225 = 0 then (caesuralaw27_NoteLines.j1 kj4 l0 t224 t226 bt237.1 bt237.2 (t227 != 0)) else (caesuralaw27_NoteLines.j1 kj4 l0 t224 t226 bt237.1 bt237.2 true))) else (none)) = some r := by first | (rw [hy231]; with_reducible exact H) | (have H2_ := (Option.bind_some _ _).symm.trans H; rw [hy231]; with_reducible exact H2_) | (have H2_ := (Option.bind_some _ _).symm.trans H; with_reducible exact H2_) | with_reducible exact H | (rw [hy231]; exact H) | exact H
            have Ny231 := Aside0.mk hy231
            clear hy231
            by_cases c15 : y231.length + l1.length < 1759218604441
            · rw [if_pos c15] at H
              have LMc15 := Aside0.mk c15
              clear c15
              obtain ⟨y234, hy234⟩ : ∃ y_ : List (S32), y_ = (y231 ++ l1) := ⟨_, rfl⟩
              replace H : ((note_Text.f y234).bind fun bt237 => (if t225 = 0 then (caesuralaw27_NoteLines.j1 kj4 l0 t224 t226 bt237.1 bt237.2 (t227 != 0)) else (caesuralaw27_NoteLines.j1 kj4 l0 t224 t226 bt237.1 bt237.2 true))) = some r := by first | (rw [hy234]; with_reducible exact H) | (have H2_ := (Option.bind_some _ _).symm.trans H; rw [hy234]; with_reducible exact H2_) | (have H2_ := (Option.bind_some _ _).symm.trans H; with_reducible exact H2_) | with_reducible exact H | (rw [hy234]; exact H) | exact H
              have Ny234 := Aside0.mk hy234
              clear hy234
              replace H := Option.bind_eq_some_iff.mp H
              obtain ⟨⟨t237, t238⟩, A160, H⟩ := H
              replace H : (if t225 = 0 then (caesuralaw27_NoteLines.j1 kj4 l0 t224 t226 t237 t238 (t227 != 0)) else (caesuralaw27_NoteLines.j1 kj4 l0 t224 t226 t237 t238 true)) = some r := H
              have A16 := Aside0.mk A160
              clear A160
              have HC17 := Aside0.mk H
              clear H
              go_upto_region 8 with (first | ((with_reducible refine gate_callee (f := 17) rfl ?_); refine goesL_ (some 33) rfl rfl Tryz.func17 (by kernel_rfl) rfl #[.slice A0 l0.length c0] rfl (by (try simp only [List.map_toArray, List.map_cons, List.map_nil]); first | done | rfl | (simp only [List.length_drop, List.length_take]; rfl)) ?_; (with_reducible refine (note_Text.calls (hG := ?gok) _ _ l0 t224 t225 _ ?side1 ?side2 A12.out).mono ?_); (case gok => exact GOK.step hG (by repeat (first | (with_reducible first | exact HB.out | exact Below.refl _ _ | apply below_alloc | apply pw_below_drewN | apply below_drew1) | exact HB.out))); (case side1 => repeat (first | exact (Kd.V_reads' HO_0.out).2.2 | (with_reducible refine Kd.C_alloc ?_ _) | (with_reducible refine Kd.C_drewN ?_ _) | (with_reducible refine Kd.C_drew ?_))); (case side2 => exact (Kd.V_reads' HO_0.out).2.1); rintro e w18 ⟨rfl, hb⟩; refine ⟨_, rfl, ?_⟩; have n0_ := Aside0.mk (Kd.V_below (by (with_reducible repeat (first | apply Kd.V_alloc | apply Kd.V_drewN | apply Kd.V_drew)); exact HO_0.out) hb); have n1_ := Aside0.mk (Kd.V_below (by (with_reducible repeat (first | apply Kd.V_alloc | apply Kd.V_drewN | apply Kd.V_drew)); exact HO_1.out) hb); have n2_ := Aside0.mk (below_step (by repeat (first | (with_reducible first | exact HB.out | apply below_alloc | apply pw_below_drewN | apply below_drew1) | exact HB.out)) hb); clear HO_0; clear HO_1; clear HB; have HO_0 := n0_; have HO_1 := n1_; have HB := n2_; clear n0_ n1_ n2_; (try clear hb); (try clear hb2); (try clear hk); (try clear hi)) | ((with_reducible refine gate_callee (f := 17) rfl ?_); refine goesL_ (some 38) rfl rfl Tryz.func17 (by kernel_rfl) rfl #[.slice A1 l1.length c1] rfl (by (try simp only [List.map_toArray, List.map_cons, List.map_nil]); first | done | rfl | (simp only [List.length_drop, List.length_take]; rfl)) ?_; (with_reducible refine (note_Text.calls (hG := ?gok) _ _ l1 t226 t227 _ ?side1 ?side2 A13.out).mono ?_); (case gok => exact GOK.step hG (by repeat (first | (with_reducible first | exact HB.out | exact Below.refl _ _ | apply below_alloc | apply pw_below_drewN | apply below_drew1) | exact HB.out))); (case side1 => repeat (first | exact (Kd.V_reads' HO_1.out).2.2 | (with_reducible refine Kd.C_alloc ?_ _) | (with_reducible refine Kd.C_drewN ?_ _) | (with_reducible refine Kd.C_drew ?_))); (case side2 => exact (Kd.V_reads' HO_1.out).2.1); rintro e w19 ⟨rfl, hb⟩; refine ⟨_, rfl, ?_⟩; have n0_ := Aside0.mk (Kd.V_below (by (with_reducible repeat (first | apply Kd.V_alloc | apply Kd.V_drewN | apply Kd.V_drew)); exact HO_0.out) hb); have n1_ := Aside0.mk (Kd.V_below (by (with_reducible repeat (first | apply Kd.V_alloc | apply Kd.V_drewN | apply Kd.V_drew)); exact HO_1.out) hb); have n2_ := Aside0.mk (below_step (by repeat (first | (with_reducible first | exact HB.out | apply below_alloc | apply pw_below_drewN | apply below_drew1) | exact HB.out)) hb); clear HO_0; clear HO_1; clear HB; have HO_0 := n0_; have HO_1 := n1_; have HB := n2_; clear n0_ n1_ n2_; (try clear hb); (try clear hb2); (try clear hk); (try clear hi)) | ((with_reducible refine gate_dst (N := 42) rfl ?_); (try (refine gate_guard (by rfl) ?_; dsimp only)); refine Kd.N_lit k32 _ 32 ?hg (N' := 42) ?hd (xs := ([] : List (S32))) (inner := []) (ok := (fun k_ => ((P0_ k_ ∨ P1_ k_) ∨ w.heap.size ≤ k_))) (okp := (fun k_ => ((P0_ k_ ∨ P1_ k_) ∨ w.heap.size ≤ k_))) ?hr ?hp (fun _ hk => hk) ((show ∀ k_, w19.heap.size ≤ k_ → (fun k_ => ((P0_ k_ ∨ P1_ k_) ∨ w.heap.size ≤ k_)) k_ from fun k_ hk => (.inr (Nat.le_trans (below_size (by repeat (first | (with_reducible first | exact HB.out | apply below_alloc | apply pw_below_drewN | apply below_drew1) | exact HB.out))) hk))) _ (Nat.le_refl _)) (Below.refl _ _) (Nat.le_refl _) (by simp) ?_; (case hd => rfl); (case hg => rfl); (case hr => first | (go_simp; done) | (go_simp; rfl)); (case hp => exact (Reps.none _ _)); intro v229 w20 ho21 hb hg_ hnew_; clear hg_ hnew_; (first | rw [← Ny228.out] at ho21 | (simp only [Int.reduceToNat] at ho21; rw [← Ny228.out] at ho21)); have n0_ := Aside0.mk (Kd.V_elder' (by (with_reducible repeat (first | apply Kd.V_alloc | apply Kd.V_drewN | apply Kd.V_drew)); exact HO_0.out) (Kd.N_base ho21) hb); have n1_ := Aside0.mk (Kd.V_elder' (by (with_reducible repeat (first | apply Kd.V_alloc | apply Kd.V_drewN | apply Kd.V_drew)); exact HO_1.out) (Kd.N_base ho21) hb); have n2_ := Aside0.mk (Kd.N_lower ho21 (below_size (by repeat (first | (with_reducible first | exact HB.out | apply below_alloc | apply pw_below_drewN | apply below_drew1) | exact HB.out)))); have n3_ := Aside0.mk (below_step (by repeat (first | (with_reducible first | exact HB.out | apply below_alloc | apply pw_below_drewN | apply below_drew1) | exact HB.out)) hb); clear HO_0; clear HO_1; clear HB; have HO_0 := n0_; have HO_1 := n1_; have HO230 := n2_; have HB := n3_; clear n0_ n1_ n2_ n3_; clear hb ho21) | ((with_reducible refine gate_builtin (b := .append) (xs := #[.tmp 42, .tmp 43]) rfl ?_); (try (refine gate_guard (by rfl) ?_; dsimp only)); at_builtin; refine Kd.N_append_rows k32 (w0 := w) w.heap.size rfl (.tmp 42) (.tmp 43) 22 32 (.agg #[(.int .i64 0), (.int .i64 0), (.int .i64 0), (.string ⟨#[]⟩), (.bool false), (.slice none 0 0), (.int .i64 0)]) 80 rfl Tryz.underlying22 info32 rfl (by decide) (by omega) v229 y228 l0 _ _ _ (fun k_ => ((P0_ k_ ∨ P1_ k_) ∨ w.heap.size ≤ k_)) (fun k_ => ((fun k_ => ((P0_ k_ ∨ P1_ k_) ∨ w.heap.size ≤ k_))) k_ ∧ some k_ ≠ (v229 : Value).ownBlock) rfl rfl ?aO ?aR (fun _ hk => hk) ?aF ?aB ?aS ?aL ?_; (case aR => exact (by skip; exact Kd.V_F (Kd.V_mono (ok' := (fun k_ => ((fun k_ => ((P0_ k_ ∨ P1_ k_) ∨ w.heap.size ≤ k_))) k_ ∧ some k_ ≠ (v229 : Value).ownBlock)) (HO_0.out) (fun k_ hk => ⟨hk.1, hk.2⟩)))); (case aB => exact (by repeat (first | (with_reducible first | exact HB.out | apply below_alloc | apply pw_below_drewN | apply below_drew1) | exact HB.out))); (case aF => exact (fun k_ hk => (.inr (Nat.le_trans (below_size (by repeat (first | (with_reducible first | exact HB.out | apply below_alloc | apply pw_below_drewN | apply below_drew1) | exact HB.out))) hk)))); (case aO => exact (by (with_reducible repeat (first | apply Kd.N_alloc | apply Kd.N_drewN | apply Kd.N_drew)); exact HO230.out)); (case aS => exact (below_size (by repeat (first | (with_reducible first | exact HB.out | apply below_alloc | apply pw_below_drewN | apply below_drew1) | exact HB.out)))); (case aL => have := LMc14.out; omega); intro v232 w22 ho hb hg hat; rw [← Ny231.out] at ho; have n0_ := Aside0.mk (Kd.V_afterv (ok := (fun k_ => ((P0_ k_ ∨ P1_ k_) ∨ w.heap.size ≤ k_))) (by (with_reducible repeat (first | apply Kd.V_alloc | apply Kd.V_drewN | apply Kd.V_drew)); exact HO_0.out) hg hat); have n1_ := Aside0.mk (Kd.V_afterv (ok := (fun k_ => ((P0_ k_ ∨ P1_ k_) ∨ w.heap.size ≤ k_))) (by (with_reducible repeat (first | apply Kd.V_alloc | apply Kd.V_drewN | apply Kd.V_drew)); exact HO_1.out) hg hat); have n2_ := Aside0.mk (hb); have n3_ := Aside0.mk (ho); clear HO_0; clear HO_1; clear HB; clear HO230; have HO_0 := n0_; have HO_1 := n1_; have HB := n2_; have HO233 := n3_; clear n0_ n1_ n2_ n3_; clear ho hb hg hat) | ((with_reducible refine gate_builtin (b := .append) (xs := #[.tmp 44, .tmp 45]) rfl ?_); (try (refine gate_guard (by rfl) ?_; dsimp only)); at_builtin; refine Kd.N_append_rows k32 (w0 := w) w.heap.size rfl (.tmp 44) (.tmp 45) 22 32 (.agg #[(.int .i64 0), (.int .i64 0), (.int .i64 0), (.string ⟨#[]⟩), (.bool false), (.slice none 0 0), (.int .i64 0)]) 80 rfl Tryz.underlying22 info32 rfl (by decide) (by omega) v232 y231 l1 _ _ _ (fun k_ => ((P0_ k_ ∨ P1_ k_) ∨ w.heap.size ≤ k_)) (fun k_ => ((fun k_ => ((P0_ k_ ∨ P1_ k_) ∨ w.heap.size ≤ k_))) k_ ∧ some k_ ≠ (v232 : Value).ownBlock) rfl rfl ?aO ?aR (fun _ hk => hk) ?aF ?aB ?aS ?aL ?_; (case aR => exact (by skip; exact Kd.V_F (Kd.V_mono (ok' := (fun k_ => ((fun k_ => ((P0_ k_ ∨ P1_ k_) ∨ w.heap.size ≤ k_))) k_ ∧ some k_ ≠ (v232 : Value).ownBlock)) (HO_1.out) (fun k_ hk => ⟨hk.1, hk.2⟩)))); (case aB => exact (by repeat (first | (with_reducible first | exact HB.out | apply below_alloc | apply pw_below_drewN | apply below_drew1) | exact HB.out))); (case aF => exact (fun k_ hk => (.inr (Nat.le_trans (below_size (by repeat (first | (with_reducible first | exact HB.out | apply below_alloc | apply pw_below_drewN | apply below_drew1) | exact HB.out))) hk)))); (case aO => exact (by (with_reducible repeat (first | apply Kd.N_alloc | apply Kd.N_drewN | apply Kd.N_drew)); exact HO233.out)); (case aS => exact (below_size (by repeat (first | (with_reducible first | exact HB.out | apply below_alloc | apply pw_below_drewN | apply below_drew1) | exact HB.out)))); (case aL => have := LMc15.out; omega); intro v235 w23 ho hb hg hat; rw [← Ny234.out] at ho; have n0_ := Aside0.mk (Kd.V_afterv (ok := (fun k_ => ((P0_ k_ ∨ P1_ k_) ∨ w.heap.size ≤ k_))) (by (with_reducible repeat (first | apply Kd.V_alloc | apply Kd.V_drewN | apply Kd.V_drew)); exact HO_0.out) hg hat); have n1_ := Aside0.mk (Kd.V_afterv (ok := (fun k_ => ((P0_ k_ ∨ P1_ k_) ∨ w.heap.size ≤ k_))) (by (with_reducible repeat (first | apply Kd.V_alloc | apply Kd.V_drewN | apply Kd.V_drew)); exact HO_1.out) hg hat); have n2_ := Aside0.mk (hb); have n3_ := Aside0.mk (ho); clear HO_0; clear HO_1; clear HB; clear HO233; have HO_0 := n0_; have HO_1 := n1_; have HB := n2_; have HO236 := n3_; clear n0_ n1_ n2_ n3_; clear ho hb hg hat; obtain ⟨Ao24, co24, eo24⟩ := Kd.N_slice HO236.out; subst eo24) | ((with_reducible refine gate_callee (f := 17) rfl ?_); refine goesL_ (some 47) rfl rfl Tryz.func17 (by kernel_rfl) rfl #[.slice Ao24 y234.length co24] rfl (by (try simp only [List.map_toArray, List.map_cons, List.map_nil]); first | done | rfl | (simp only [List.length_drop, List.length_take]; rfl)) ?_; (with_reducible refine (note_Text.calls (hG := ?gok) _ _ y234 t237 t238 _ ?side1 ?side2 A16.out).mono ?_); (case gok => exact GOK.step hG (by repeat (first | (with_reducible first | exact HB.out | exact Below.refl _ _ | apply below_alloc | apply pw_below_drewN | apply below_drew1) | exact HB.out))); (case side1 => repeat (first | exact (Kd.N_reads' HO236.out).2.2 | (with_reducible refine Kd.C_alloc ?_ _) | (with_reducible refine Kd.C_drewN ?_ _) | (with_reducible refine Kd.C_drew ?_))); (case side2 => exact (Kd.N_reads' HO236.out).2.1); rintro e w25 ⟨rfl, hb⟩; refine ⟨_, rfl, ?_⟩; have n0_ := Aside0.mk (Kd.V_below (by (with_reducible repeat (first | apply Kd.V_alloc | apply Kd.V_drewN | apply Kd.V_drew)); exact HO_0.out) hb); have n1_ := Aside0.mk (Kd.V_below (by (with_reducible repeat (first | apply Kd.V_alloc | apply Kd.V_drewN | apply Kd.V_drew)); exact HO_1.out) hb); have n2_ := Aside0.mk (Kd.N_below (by (with_reducible repeat (first | apply Kd.N_alloc | apply Kd.N_drewN | apply Kd.N_drew)); exact HO236.out) hb); have n3_ := Aside0.mk (below_step (by repeat (first | (with_reducible first | exact HB.out | apply below_alloc | apply pw_below_drewN | apply below_drew1) | exact HB.out)) hb); clear HO_0; clear HO_1; clear HO236; clear HB; have HO_0 := n0_; have HO_1 := n1_; have HO236 := n2_; have HB := n3_; clear n0_ n1_ n2_ n3_; (try clear hb); (try clear hb2); (try clear hk); (try clear hi)))
              (try simp only [Act.put, List.setIfInBounds_toArray, List.set_cons_zero, List.set_cons_succ])
              go_cut [55] (fun v55 wc => ∃ (kq : Nat) (x55_16 : Bool), v55 = .bool x55_16 ∧ Aside0 (caesuralaw27_NoteLines.j1 kq l0 t224 t226 t237 t238 x55_16 = some r) ∧ Aside0 (kq ≤ kj4) ∧ Aside0 (Kd.V k32 32 wc w.heap.size (fun k_ => ((P0_ k_ ∨ P1_ k_) ∨ w.heap.size ≤ k_)) (.slice A0 l0.length c0) l0) ∧ Aside0 (Below w.heap.size w wc))
              case first =>
                have H := HC17.out
                clear HC17
                by_cases c26 : t225 = 0
                · rw [if_pos c26] at H
                  have c26b0 : (t225 == 0) = true := beq_iff_eq.mpr c26
                  have c26b1 : (t225 != 0) = false := bne_eq_false_iff_eq.mpr c26
                  clear c26
                  (first | rw [c26b0] | (simp only [i64_w, i32_w]; rw [c26b0]) | skip)
                  have H' := Aside0.mk H
                  clear H
                  go_wp2
                  go_meet
                  case rel => exact ⟨_, ((t227 != 0)), (by first | rfl | (simp; done) | (simp [*]; done)), H', ⟨by have := HJ4.out; first | omega | exact Nat.le_refl _⟩, ⟨by (with_reducible repeat (first | apply Kd.V_alloc | apply Kd.V_drewN | apply Kd.V_drew)); exact Kd.V_mono HO_0.out (fun _ hk => hk.1)⟩, ⟨by repeat (first | (with_reducible first | exact HB.out | apply below_alloc | apply pw_below_drewN | apply below_drew1) | exact HB.out)⟩⟩
                · rw [if_neg c26] at H
                  have c26b0 : (t225 == 0) = false := beq_eq_false_iff_ne.mpr c26
                  have c26b1 : (t225 != 0) = true := bne_iff_ne.mpr c26
                  (first | rw [c26b0] | (simp only [i64_w, i32_w]; rw [c26b0]) | skip)
                  have H' := Aside0.mk H
                  clear H
                  go_wp2
                  go_meet
                  case rel => exact ⟨_, (true), (by first | rfl | (simp; done) | (simp [*]; done)), H', ⟨by have := HJ4.out; first | omega | exact Nat.le_refl _⟩, ⟨by (with_reducible repeat (first | apply Kd.V_alloc | apply Kd.V_drewN | apply Kd.V_drew)); exact Kd.V_mono HO_0.out (fun _ hk => hk.1)⟩, ⟨by repeat (first | (with_reducible first | exact HB.out | apply below_alloc | apply pw_below_drewN | apply below_drew1) | exact HB.out)⟩⟩
              case rest =>
                clear HC17
                try clear c1
                try clear c2
                try clear p2
                try clear c4
                try clear p6
                try clear c7
                try clear c8
                try clear c9
                try clear c10
                try clear c11
                try clear c14
                try clear c15
                try clear c17
                try clear c26
                try clear c26b0
                try clear c26b1
                try clear p2
                try clear p6
                obtain ⟨kq, x55_16, rfl, HA, HJ16, HO_0, HB⟩ := hcut
                cases kq with
                | zero => exact absurd HA.out (by simp [caesuralaw27_NoteLines.j1])
                | succ kj16 =>
                  have H := HA.out
                  clear HA
                  simp only [caesuralaw27_NoteLines.j1] at H
                  by_cases c27 : x55_16 = true
                  · subst c27
                    have H1 : (if t238 = 1 then (some (t237.toList == ([] : List UInt8))) else (none)) = some r := by rw [if_pos rfl] at H; exact H
                    clear H
                    have H := H1
                    clear H1
                    by_cases c28 : t238 = 1
                    · rw [if_pos c28] at H
                      have c28b0 : (t238 == 1) = true := beq_iff_eq.mpr c28
                      have c28b1 : (t238 != 1) = false := bne_eq_false_iff_eq.mpr c28
                      clear c28
                      obtain rfl := Option.some.inj H
                      go_wp2
                      go_ret
                      exact ⟨by first | rfl | (simp [errW_none, errW_some] <;> rfl) | (simp [*, errW_none, errW_some] <;> rfl), by repeat (first | (with_reducible first | exact HB.out | apply below_alloc | apply pw_below_drewN | apply below_drew1) | exact HB.out)⟩
                    · rw [if_neg c28] at H
                      exact absurd H (by simp)
                  · replace c27 := Bool.eq_false_iff.mpr c27
                    subst c27
                    have H1 : (caesuralaw27_NoteLines.l0 kj16 l0 t224 t226 t237 t238 0) = some r := by rw [if_neg (show ¬ (false = true) by decide)] at H; exact H
                    clear H
                    have H := H1
                    clear H1
                    have H' := Aside0.mk H
                    clear H
                    go_wp2
                    go_loopg [11] kj16 (fun kq v11 w' => ∃ (x11_3 : Int), v11 = .int .i64 x11_3 ∧ Aside0 (caesuralaw27_NoteLines.l0 kq l0 t224 t226 t237 t238 x11_3 = some r) ∧ Aside0 (kq ≤ kj16) ∧ Aside0 (Kd.V k32 32 w' w.heap.size (fun k_ => ((P0_ k_ ∨ P1_ k_) ∨ w.heap.size ≤ k_)) (.slice A0 l0.length c0) l0) ∧ Aside0 (Below w.heap.size w w'))
                    case atStart => exact ⟨(0), (by first | rfl | (simp; done) | (simp [*]; done)), H', ⟨Nat.le_refl _⟩, ⟨by (with_reducible repeat (first | apply Kd.V_alloc | apply Kd.V_drewN | apply Kd.V_drew)); exact HO_0.out⟩, ⟨by repeat (first | (with_reducible first | exact HB.out | apply below_alloc | apply pw_below_drewN | apply below_drew1) | exact HB.out)⟩⟩
                    case round =>
                      clear H'
                      try clear c1
                      try clear c2
                      try clear p2
                      try clear c4
                      try clear p6
                      try clear c7
                      try clear c8
                      try clear c9
                      try clear c10
                      try clear c11
                      try clear c14
                      try clear c15
                      try clear c17
                      try clear c26
                      try clear c26b0
                      try clear c26b1
                      try clear c27
                      try clear c28
                      try clear c28b0
                      try clear c28b1
                      try clear p2
                      try clear p6
                      obtain ⟨x11_3, rfl, HA, HK3, HO_0, HB⟩ := hrel
                      cases gk with
                      | zero => exact absurd HA.out (by simp [caesuralaw27_NoteLines.l0])
                      | succ k3 =>
                        have H := HA.out
                        clear HA
                        simp only [caesuralaw27_NoteLines.l0] at H
                        by_cases c29 : x11_3 < (l0.length : Int)
                        · rw [if_pos c29] at H
                          have c29b0 : decide (x11_3 < (l0.length : Int)) = true := decide_eq_true c29
                          clear c29
                          by_cases c30 : 0 ≤ x11_3
                          · rw [if_pos c30] at H
                            have c30b0 : decide (0 ≤ x11_3) = true := decide_eq_true c30
                            clear c30
                            replace H := Option.bind_eq_some_iff.mp H
                            obtain ⟨⟨t240, t241⟩, A310, H⟩ := H
                            replace H : ((note_Word.f ((rd_T32 l0 x11_3).f0)).bind fun t243 => (if (rd_T32 l0 x11_3).f4 = true then (if 8 + t243.size ≤ 9223372036854775807 then (if t241 = 0 then (if (t240.size : Int) ≤ (((⟨#[97, 108, 108, 111, 119, 101, 100, 32]⟩ : ByteArray) ++ t243).size : Int) then (none) else (if 0 ≤ (((⟨#[97, 108, 108, 111, 119, 101, 100, 32]⟩ : ByteArray) ++ t243).size : Int) then (if (((⟨#[97, 108, 108, 111, 119, 101, 100, 32]⟩ : ByteArray) ++ t243).size : Int) ≤ (t240.size : Int) then (if (t240.extract 0 ((((⟨#[97, 108, 108, 111, 119, 101, 100, 32]⟩ : ByteArray) ++ t243).size : Int) : Int).toNat).toList = ((⟨#[97, 108, 108, 111, 119, 101, 100, 32]⟩ : ByteArray) ++ t243).toList then (if (((⟨#[97, 108, 108, 111, 119, 101, 100, 32]⟩ : ByteArray) ++ t243).size : Int) < (t240.size : Int) then (if (bt t240 (((⟨#[97, 108, 108, 111, 119, 101, 100, 32]⟩ : ByteArray) ++ t243).size : Int)) = 32 then (caesuralaw27_NoteLines.l0 k3 l0 t224 t226 t237 t238 (wrap64 (x11_3 + 1))) else (none)) else (none)) else (none)) else (none)) else (none))) else (none)) else (none)) else (if t241 = 0 then (if (t240.size : Int) ≤ (t243.size : Int) then (none) else (if 0 ≤ (t243.size : Int) then (if (t243.size : Int) ≤ (t240.size : Int) then (if (t240.extract 0 ((t243.size : Int) : Int).toNat).toList = t243.toList then (if (t243.size : Int) < (t240.size : Int) then (if (bt t240 (t243.size : Int)) = 32 then (caesuralaw27_NoteLines.l0 k3 l0 t224 t226 t237 t238 (wrap64 (x11_3 + 1))) else (none)) else (none)) else (none)) else (none)) else (none))) else (none)))) = some r := H
                            have A31 := Aside0.mk A310
                            clear A310
                            replace H := Option.bind_eq_some_iff.mp H
                            obtain ⟨t243, A320, H⟩ := H
                            replace H : (if (rd_T32 l0 x11_3).f4 = true then (if 8 + t243.size ≤ 9223372036854775807 then (if t241 = 0 then (if (t240.size : Int) ≤ (((⟨#[97, 108, 108, 111, 119, 101, 100, 32]⟩ : ByteArray) ++ t243).size : Int) then (none) else (if 0 ≤ (((⟨#[97, 108, 108, 111, 119, 101, 100, 32]⟩ : ByteArray) ++ t243).size : Int) then (if (((⟨#[97, 108, 108, 111, 119, 101, 100, 32]⟩ : ByteArray) ++ t243).size : Int) ≤ (t240.size : Int) then (if (t240.extract 0 ((((⟨#[97, 108, 108, 111, 119, 101, 100, 32]⟩ : ByteArray) ++ t243).size : Int) : Int).toNat).toList = ((⟨#[97, 108, 108, 111, 119, 101, 100, 32]⟩ : ByteArray) ++ t243).toList then (if (((⟨#[97, 108, 108, 111, 119, 101, 100, 32]⟩ : ByteArray) ++ t243).size : Int) < (t240.size : Int) then (if (bt t240 (((⟨#[97, 108, 108, 111, 119, 101, 100, 32]⟩ : ByteArray) ++ t243).size : Int)) = 32 then (caesuralaw27_NoteLines.l0 k3 l0 t224 t226 t237 t238 (wrap64 (x11_3 + 1))) else (none)) else (none)) else (none)) else (none)) else (none))) else (none)) else (none)) else (if t241 = 0 then (if (t240.size : Int) ≤ (t243.size : Int) then (none) else (if 0 ≤ (t243.size : Int) then (if (t243.size : Int) ≤ (t240.size : Int) then (if (t240.extract 0 ((t243.size : Int) : Int).toNat).toList = t243.toList then (if (t243.size : Int) < (t240.size : Int) then (if (bt t240 (t243.size : Int)) = 32 then (caesuralaw27_NoteLines.l0 k3 l0 t224 t226 t237 t238 (wrap64 (x11_3 + 1))) else (none)) else (none)) else (none)) else (none)) else (none))) else (none))) = some r := H
                            have A32 := Aside0.mk A320
                            clear A320
                            obtain ⟨bq33, hbq33⟩ : ∃ b_ : Bool, b_ = ((rd_T32 l0 x11_3).f4) := ⟨_, rfl⟩
                            replace H : (if bq33 = true then (if 8 + t243.size ≤ 9223372036854775807 then (if t241 = 0 then (if (t240.size : Int) ≤ (((⟨#[97, 108, 108, 111, 119, 101, 100, 32]⟩ : ByteArray) ++ t243).size : Int) then (none) else (if 0 ≤ (((⟨#[97, 108, 108, 111, 119, 101, 100, 32]⟩ : ByteArray) ++ t243).size : Int) then (if (((⟨#[97, 108, 108, 111, 119, 101, 100, 32]⟩ : ByteArray) ++ t243).size : Int) ≤ (t240.size : Int) then (if (t240.extract 0 ((((⟨#[97, 108, 108, 111, 119, 101, 100, 32]⟩ : ByteArray) ++ t243).size : Int) : Int).toNat).toList = ((⟨#[97, 108, 108, 111, 119, 101, 100, 32]⟩ : ByteArray) ++ t243).toList then (if (((⟨#[97, 108, 108, 111, 119, 101, 100, 32]⟩ : ByteArray) ++ t243).size : Int) < (t240.size : Int) then (if (bt t240 (((⟨#[97, 108, 108, 111, 119, 101, 100, 32]⟩ : ByteArray) ++ t243).size : Int)) = 32 then (caesuralaw27_NoteLines.l0 k3 l0 t224 t226 t237 t238 (wrap64 (x11_3 + 1))) else (none)) else (none)) else (none)) else (none)) else (none))) else (none)) else (none)) else (if t241 = 0 then (if (t240.size : Int) ≤ (t243.size : Int) then (none) else (if 0 ≤ (t243.size : Int) then (if (t243.size : Int) ≤ (t240.size : Int) then (if (t240.extract 0 ((t243.size : Int) : Int).toNat).toList = t243.toList then (if (t243.size : Int) < (t240.size : Int) then (if (bt t240 (t243.size : Int)) = 32 then (caesuralaw27_NoteLines.l0 k3 l0 t224 t226 t237 t238 (wrap64 (x11_3 + 1))) else (none)) else (none)) else (none)) else (none)) else (none))) else (none))) = some r := by rw [← hbq33] at H; exact H
                            rw [← hbq33] at A31; have Nbq33 := Aside0.mk hbq33
                            clear hbq33
                            by_cases c34 : bq33 = true
                            · subst c34
                              have H1 : (if 8 + t243.size ≤ 9223372036854775807 then (if t241 = 0 then (if (t240.size : Int) ≤ (((⟨#[97, 108, 108, 111, 119, 101, 100, 32]⟩ : ByteArray) ++ t243).size : Int) then (none) else (if 0 ≤ (((⟨#[97, 108, 108, 111, 119, 101, 100, 32]⟩ : ByteArray) ++ t243).size : Int) then (if (((⟨#[97, 108, 108, 111, 119, 101, 100, 32]⟩ : ByteArray) ++ t243).size : Int) ≤ (t240.size : Int) then (if (t240.extract 0 ((((⟨#[97, 108, 108, 111, 119, 101, 100, 32]⟩ : ByteArray) ++ t243).size : Int) : Int).toNat).toList = ((⟨#[97, 108, 108, 111, 119, 101, 100, 32]⟩ : ByteArray) ++ t243).toList then (if (((⟨#[97, 108, 108, 111, 119, 101, 100, 32]⟩ : ByteArray) ++ t243).size : Int) < (t240.size : Int) then (if (bt t240 (((⟨#[97, 108, 108, 111, 119, 101, 100, 32]⟩ : ByteArray) ++ t243).size : Int)) = 32 then (caesuralaw27_NoteLines.l0 k3 l0 t224 t226 t237 t238 (wrap64 (x11_3 + 1))) else (none)) else (none)) else (none)) else (none)) else (none))) else (none)) else (none)) = some r := by rw [if_pos rfl] at H; exact H
                              clear H
                              have H := H1
                              clear H1
                              by_cases c35 : 8 + t243.size ≤ 9223372036854775807
                              · rw [if_pos c35] at H
                                have c35b0 := eq_true c35
                                have c35b1 : decide (8 + t243.size ≤ 9223372036854775807) = true := decide_eq_true c35
                                try have c35b2 : (9223372036854775807 < 8 + t243.size) = False := eq_false (Nat.not_lt.2 c35)
                                by_cases c36 : t241 = 0
                                · rw [if_pos c36] at H
                                  have c36b0 : (t241 == 0) = true := beq_iff_eq.mpr c36
                                  have c36b1 : (t241 != 0) = false := bne_eq_false_iff_eq.mpr c36
                                  clear c36
                                  by_cases c37 : (t240.size : Int) ≤ (((⟨#[97, 108, 108, 111, 119, 101, 100, 32]⟩ : ByteArray) ++ t243).size : Int)
                                  · rw [if_pos c37] at H
                                    exact absurd H (by simp)
                                  · rw [if_neg c37] at H
                                    have c37b0 : decide ((t240.size : Int) ≤ (((⟨#[97, 108, 108, 111, 119, 101, 100, 32]⟩ : ByteArray) ++ t243).size : Int)) = false := decide_eq_false c37
                                    have c37b1 : decide (t240.size ≤ ((⟨#[97, 108, 108, 111, 119, 101, 100, 32]⟩ : ByteArray) ++ t243).size) = false := decide_eq_false (fun h => c37 (Int.ofNat_le.mpr h))
                                    clear c37
                                    by_cases c38 : 0 ≤ (((⟨#[97, 108, 108, 111, 119, 101, 100, 32]⟩ : ByteArray) ++ t243).size : Int)
                                    · rw [if_pos c38] at H
                                      have c38b0 := eq_true c38
                                      have c38b1 : decide (0 ≤ (((⟨#[97, 108, 108, 111, 119, 101, 100, 32]⟩ : ByteArray) ++ t243).size : Int)) = true := decide_eq_true c38
                                      by_cases c39 : (((⟨#[97, 108, 108, 111, 119, 101, 100, 32]⟩ : ByteArray) ++ t243).size : Int) ≤ (t240.size : Int)
                                      · rw [if_pos c39] at H
                                        have c39b0 := eq_true c39
                                        have c39b1 : decide ((((⟨#[97, 108, 108, 111, 119, 101, 100, 32]⟩ : ByteArray) ++ t243).size : Int) ≤ (t240.size : Int)) = true := decide_eq_true c39
                                        by_cases c40 : (t240.extract 0 ((((⟨#[97, 108, 108, 111, 119, 101, 100, 32]⟩ : ByteArray) ++ t243).size : Int) : Int).toNat).toList = ((⟨#[97, 108, 108, 111, 119, 101, 100, 32]⟩ : ByteArray) ++ t243).toList
                                        · rw [if_pos c40] at H
                                          have c40b0 : ((t240.extract 0 ((((⟨#[97, 108, 108, 111, 119, 101, 100, 32]⟩ : ByteArray) ++ t243).size : Int) : Int).toNat).toList == ((⟨#[97, 108, 108, 111, 119, 101, 100, 32]⟩ : ByteArray) ++ t243).toList) = true := beq_iff_eq.mpr c40
                                          have c40b1 : ((t240.extract 0 ((((⟨#[97, 108, 108, 111, 119, 101, 100, 32]⟩ : ByteArray) ++ t243).size : Int) : Int).toNat).toList != ((⟨#[97, 108, 108, 111, 119, 101, 100, 32]⟩ : ByteArray) ++ t243).toList) = false := bne_eq_false_iff_eq.mpr c40
                                          clear c40
                                          by_cases c41 : (((⟨#[97, 108, 108, 111, 119, 101, 100, 32]⟩ : ByteArray) ++ t243).size : Int) < (t240.size : Int)
                                          · rw [if_pos c41] at H
                                            have c41b0 : decide ((((⟨#[97, 108, 108, 111, 119, 101, 100, 32]⟩ : ByteArray) ++ t243).size : Int) < (t240.size : Int)) = true := decide_eq_true c41
                                            have c41b1 : decide (((⟨#[97, 108, 108, 111, 119, 101, 100, 32]⟩ : ByteArray) ++ t243).size < t240.size) = true := decide_eq_true (Int.ofNat_lt.mp c41)
                                            clear c41
                                            by_cases c43 : (bt t240 (((⟨#[97, 108, 108, 111, 119, 101, 100, 32]⟩ : ByteArray) ++ t243).size : Int)) = 32
                                            · rw [if_pos c43] at H
                                              have c43b0 : ((bt t240 (((⟨#[97, 108, 108, 111, 119, 101, 100, 32]⟩ : ByteArray) ++ t243).size : Int)) == 32) = true := beq_iff_eq.mpr c43
                                              have c43b1 : ((bt t240 (((⟨#[97, 108, 108, 111, 119, 101, 100, 32]⟩ : ByteArray) ++ t243).size : Int)) != 32) = false := bne_eq_false_iff_eq.mpr c43
                                              clear c43; have e0_ : ((⟨#[97, 108, 108, 111, 119, 101, 100, 32]⟩ : ByteArray) ++ t243).size = 8 + t243.size := (by rw [ByteArray.size_append]; rfl); have k1_ : ¬ ((t240.size : Int) ≤ 8 + (t243.size : Int)) := (by have h_ := of_decide_eq_false c37b1; rw [e0_] at h_; omega); have k3_ : (t240.extract 0 (8 + t243.size)).toList = ((⟨#[97, 108, 108, 111, 119, 101, 100, 32]⟩ : ByteArray) ++ t243).toList := (by have h_ := beq_iff_eq.1 c40b0; rw [Int.toNat_natCast, e0_] at h_; exact h_); have k4_ : ∀ h, (((t240[8 + t243.size]'h).toNat : Int) != 32) = false := (fun h => by have h_ := bt_at t240 ((8 + t243.size : Nat) : Int) h; have q_ := c43b1; rw [e0_] at q_; rw [show (((t240[8 + t243.size]'h).toNat : Int)) = bt t240 ((8 + t243.size : Nat) : Int) from h_]; exact q_); have K1_ := Lib.hid k1_; have K3_ := Lib.hid k3_; have K4_ := Lib.hid k4_; clear k1_ k3_ k4_ e0_
                                              have H' := Aside0.mk H
                                              clear H
                                              have p239 : 0 ≤ (x11_3 : Int) := of_decide_eq_true (by first | (with_reducible assumption) | assumption)
                                              have q239 : x11_3 < (l0.length : Int) := of_decide_eq_true (by first | (with_reducible assumption) | assumption)
                                              obtain ⟨ad239, A239_5, c239_5, e239, hx239_0, hx239_1, hx239_2, hx239_3, hx239_4, hx239_5, hx239_6, hl239_5, hi239_5⟩ := at_T32 (Kd.V_reads' HO_0.out).2.2 x11_3 p239 q239
                                              (try rw [← Nbq33.out] at hx239_4)
                                              cases e239
                                              obtain ⟨ce239, hce239, hMe239, hcc239⟩ := Kd.V_get HO_0.out z32 x11_3 p239 (by first | exact q239 | exact of_decide_eq_true (by first | (with_reducible assumption) | assumption) | (have e_ := (Kd.V_reads' HO_0.out).1; omega))
                                              obtain ⟨ua239_5, uc239_5, rfl, ul239_5, ge239_5⟩ := k32_openF hMe239
                                              have hv239_5 := hcc239 5 _ rfl
                                              rw [add_field _ _ 5 (by omega)] at hv239_5
                                              replace hv239_5 := Option.some.inj (hv239_5.symm.trans hx239_5)
                                              injection hv239_5 with hva_ hvn_ hvc_
                                              rw [hva_] at ge239_5
                                              rw [hvc_] at ul239_5
                                              have HL239_5 := Aside0.mk (show Kd.V (Kd.int .i64) 3 _ w.heap.size _ _ ((rd_T32 l0 x11_3).f5.f0) from Kd.V_mk ul239_5 ge239_5)
                                              clear hva_ hvn_ hvc_ ge239_5 ul239_5
                                              clear hcc239 hce239
                                              have HR239_5 := Aside0.mk hi239_5
                                              have HC239_5 := Aside0.mk hl239_5
                                              clear hi239_5 hl239_5
                                              replace p239 := eq_true p239
                                              replace q239 := eq_true q239
                                              go_wp2_with (first | ((with_reducible refine gate_callee (f := 11) rfl ?_); refine goesL_ (some 73) rfl rfl Tryz.func11 (by kernel_rfl) rfl #[.agg #[.int .i64 ((rd_T32 l0 x11_3).f0), .int .i64 ((rd_T32 l0 x11_3).f1), .int .i64 ((rd_T32 l0 x11_3).f2), .string ((rd_T32 l0 x11_3).f3), .bool true, .slice A239_5 ((rd_T32 l0 x11_3).f5.f0).length c239_5, .int .i64 ((rd_T32 l0 x11_3).f5.f1)]] rfl (by (try simp only [List.map_toArray, List.map_cons, List.map_nil]); first | done | rfl | (simp only [List.length_drop, List.length_take]; rfl)) ?_; (with_reducible refine (note_Line.calls (hG := ?gok) ((rd_T32 l0 x11_3).f0) ((rd_T32 l0 x11_3).f1) ((rd_T32 l0 x11_3).f2) ((rd_T32 l0 x11_3).f3) true _ _ ((rd_T32 l0 x11_3).f5.f0) ((rd_T32 l0 x11_3).f5.f1) t240 t241 _ ?side1 ?side2 A31.out).mono ?_); (case gok => exact GOK.step hG (by repeat (first | (with_reducible first | exact HB.out | exact Below.refl _ _ | apply below_alloc | apply pw_below_drewN | apply below_drew1) | exact HB.out))); (case side1 => repeat (first | exact (by repeat (first | (with_reducible exact HR239_5.out) | (with_reducible refine Kd.C_alloc ?_ _) | (with_reducible refine Kd.C_drewN ?_ _) | (with_reducible refine Kd.C_drew ?_) | exact HR239_5.out)) | (with_reducible refine Kd.C_alloc ?_ _) | (with_reducible refine Kd.C_drewN ?_ _) | (with_reducible refine Kd.C_drew ?_))); (case side2 => exact HC239_5.out); rintro e w44 ⟨rfl, hb⟩; refine ⟨_, rfl, ?_⟩; have n0_ := Aside0.mk (Kd.V_below (by (with_reducible repeat (first | apply Kd.V_alloc | apply Kd.V_drewN | apply Kd.V_drew)); exact HO_0.out) hb); have n1_ := Aside0.mk (Kd.V_below (by (with_reducible repeat (first | apply Kd.V_alloc | apply Kd.V_drewN | apply Kd.V_drew)); exact HL239_5.out) hb); have n2_ := Aside0.mk (Kd.C_below (by repeat (first | (with_reducible exact HR239_5.out) | (with_reducible refine Kd.C_alloc ?_ _) | (with_reducible refine Kd.C_drewN ?_ _) | (with_reducible refine Kd.C_drew ?_) | exact HR239_5.out)) hb); have n3_ := Aside0.mk (below_step (by repeat (first | (with_reducible first | exact HB.out | apply below_alloc | apply pw_below_drewN | apply below_drew1) | exact HB.out)) hb); clear HO_0; clear HL239_5; clear HR239_5; clear HB; have HO_0 := n0_; have HL239_5 := n1_; have HR239_5 := n2_; have HB := n3_; clear n0_ n1_ n2_ n3_; (try clear hb); (try clear hb2); (try clear hk); (try clear hi); have p242 : 0 ≤ (x11_3 : Int) := of_decide_eq_true (by first | (with_reducible assumption) | assumption); have q242 : x11_3 < (l0.length : Int) := of_decide_eq_true (by first | (with_reducible assumption) | assumption); obtain ⟨ad242, A242_5, c242_5, e242, hx242_0, hx242_1, hx242_2, hx242_3, hx242_4, hx242_5, hx242_6, hl242_5, hi242_5⟩ := at_T32 (Kd.V_reads' HO_0.out).2.2 x11_3 p242 q242; (try rw [← Nbq33.out] at hx242_4); obtain rfl : ad239 = ad242 := (by injection e242); obtain ⟨ce242, hce242, hMe242, hcc242⟩ := Kd.V_get HO_0.out z32 x11_3 p242 (by first | exact q242 | exact of_decide_eq_true (by first | (with_reducible assumption) | assumption) | (have e_ := (Kd.V_reads' HO_0.out).1; omega)); obtain ⟨ua242_5, uc242_5, rfl, ul242_5, ge242_5⟩ := k32_openF hMe242; have hv242_5 := hcc242 5 _ rfl; rw [add_field _ _ 5 (by omega)] at hv242_5; replace hv242_5 := Option.some.inj (hv242_5.symm.trans hx242_5); injection hv242_5 with hva_ hvn_ hvc_; rw [hva_] at ge242_5; rw [hvc_] at ul242_5; have HL242_5 := Aside0.mk (show Kd.V (Kd.int .i64) 3 _ w.heap.size _ _ ((rd_T32 l0 x11_3).f5.f0) from Kd.V_mk ul242_5 ge242_5); clear hva_ hvn_ hvc_ ge242_5 ul242_5; clear hcc242 hce242; have HR242_5 := Aside0.mk hi242_5; have HC242_5 := Aside0.mk hl242_5; clear hi242_5 hl242_5; replace p242 := eq_true p242; replace q242 := eq_true q242) | ((with_reducible refine gate_callee (f := 19) rfl ?_); refine goesL_ (some 81) rfl rfl Tryz.func19 (by kernel_rfl) rfl #[.int .i64 ((rd_T32 l0 x11_3).f0)] rfl (by (try simp only [List.map_toArray, List.map_cons, List.map_nil]); first | done | rfl | (simp only [List.length_drop, List.length_take]; rfl)) ?_; (with_reducible refine (note_Word.calls ((rd_T32 l0 x11_3).f0) t243 _ A32.out).mono ?_); rintro e w45 ⟨rfl, hb⟩; refine ⟨_, rfl, ?_⟩; have n0_ := Aside0.mk (Kd.V_below (by (with_reducible repeat (first | apply Kd.V_alloc | apply Kd.V_drewN | apply Kd.V_drew)); exact HO_0.out) hb); have n1_ := Aside0.mk (Kd.V_below (by (with_reducible repeat (first | apply Kd.V_alloc | apply Kd.V_drewN | apply Kd.V_drew)); exact HL239_5.out) hb); have n2_ := Aside0.mk (Kd.V_below (by (with_reducible repeat (first | apply Kd.V_alloc | apply Kd.V_drewN | apply Kd.V_drew)); exact HL242_5.out) hb); have n3_ := Aside0.mk (Kd.C_below (by repeat (first | (with_reducible exact HR239_5.out) | (with_reducible refine Kd.C_alloc ?_ _) | (with_reducible refine Kd.C_drewN ?_ _) | (with_reducible refine Kd.C_drew ?_) | exact HR239_5.out)) hb); have n4_ := Aside0.mk (Kd.C_below (by repeat (first | (with_reducible exact HR242_5.out) | (with_reducible refine Kd.C_alloc ?_ _) | (with_reducible refine Kd.C_drewN ?_ _) | (with_reducible refine Kd.C_drew ?_) | exact HR242_5.out)) hb); have n5_ := Aside0.mk (below_step (by repeat (first | (with_reducible first | exact HB.out | apply below_alloc | apply pw_below_drewN | apply below_drew1) | exact HB.out)) hb); clear HO_0; clear HL239_5; clear HL242_5; clear HR239_5; clear HR242_5; clear HB; have HO_0 := n0_; have HL239_5 := n1_; have HL242_5 := n2_; have HR239_5 := n3_; have HR242_5 := n4_; have HB := n5_; clear n0_ n1_ n2_ n3_ n4_ n5_; (try clear hb); (try clear hb2); (try clear hk); (try clear hi); have p244 : 0 ≤ (x11_3 : Int) := of_decide_eq_true (by first | (with_reducible assumption) | assumption); have q244 : x11_3 < (l0.length : Int) := of_decide_eq_true (by first | (with_reducible assumption) | assumption); obtain ⟨ad244, A244_5, c244_5, e244, hx244_0, hx244_1, hx244_2, hx244_3, hx244_4, hx244_5, hx244_6, hl244_5, hi244_5⟩ := at_T32 (Kd.V_reads' HO_0.out).2.2 x11_3 p244 q244; (try rw [← Nbq33.out] at hx244_4); obtain rfl : ad239 = ad244 := (by injection e244); obtain ⟨ce244, hce244, hMe244, hcc244⟩ := Kd.V_get HO_0.out z32 x11_3 p244 (by first | exact q244 | exact of_decide_eq_true (by first | (with_reducible assumption) | assumption) | (have e_ := (Kd.V_reads' HO_0.out).1; omega)); obtain ⟨ua244_5, uc244_5, rfl, ul244_5, ge244_5⟩ := k32_openF hMe244; have hv244_5 := hcc244 5 _ rfl; rw [add_field _ _ 5 (by omega)] at hv244_5; replace hv244_5 := Option.some.inj (hv244_5.symm.trans hx244_5); injection hv244_5 with hva_ hvn_ hvc_; rw [hva_] at ge244_5; rw [hvc_] at ul244_5; have HL244_5 := Aside0.mk (show Kd.V (Kd.int .i64) 3 _ w.heap.size _ _ ((rd_T32 l0 x11_3).f5.f0) from Kd.V_mk ul244_5 ge244_5); clear hva_ hvn_ hvc_ ge244_5 ul244_5; clear hcc244 hce244; have HR244_5 := Aside0.mk hi244_5; have HC244_5 := Aside0.mk hl244_5; clear hi244_5 hl244_5; replace p244 := eq_true p244; replace q244 := eq_true q244; have p42 : 0 ≤ ((((⟨#[97, 108, 108, 111, 119, 101, 100, 32]⟩ : ByteArray) ++ t243).size : Int) : Int) := of_decide_eq_true (by first | (with_reducible assumption) | assumption); have q42 : (((⟨#[97, 108, 108, 111, 119, 101, 100, 32]⟩ : ByteArray) ++ t243).size : Int) < (t240.size : Int) := of_decide_eq_true (by first | (with_reducible assumption) | assumption); have hx42 := bt_at t240 (((⟨#[97, 108, 108, 111, 119, 101, 100, 32]⟩ : ByteArray) ++ t243).size : Int); replace p42 := eq_true p42; replace q42 := eq_true q42))
                                              (all_goals (first | (exfalso; rename_i hz_; first | exact hz_ K3_.out | (have h_ := K1_.out; omega) | (rw [K4_.out] at hz_; first | done | (cases hz_; done)) | (rcases hz_ with hz_ | hz_; (have h_ := K1_.out; omega); rw [K4_.out] at hz_; first | done | (cases hz_; done))) | skip)); go_roundg k3
                                              case measure => have := HJ4.out; have := HJ16.out; have := HK3.out; omega
                                              case rel => exact ⟨(wrap64 (x11_3 + 1)), (by first | rfl | (simp; done) | (simp [*]; done)), H', ⟨by have := HJ4.out; have := HJ16.out; have := HK3.out; omega⟩, ⟨by (with_reducible repeat (first | apply Kd.V_alloc | apply Kd.V_drewN | apply Kd.V_drew)); exact HO_0.out⟩, ⟨by repeat (first | (with_reducible first | exact HB.out | apply below_alloc | apply pw_below_drewN | apply below_drew1) | exact HB.out)⟩⟩
                                            · rw [if_neg c43] at H
                                              exact absurd H (by simp)
                                          · rw [if_neg c41] at H
                                            exact absurd H (by simp)
                                        · rw [if_neg c40] at H
                                          exact absurd H (by simp)
                                      · rw [if_neg c39] at H
                                        exact absurd H (by simp)
                                    · rw [if_neg c38] at H
                                      exact absurd H (by simp)
                                · rw [if_neg c36] at H
                                  exact absurd H (by simp)
                              · rw [if_neg c35] at H
                                exact absurd H (by simp)
                            · replace c34 := Bool.eq_false_iff.mpr c34
                              subst c34
                              have H1 : (if t241 = 0 then (if (t240.size : Int) ≤ (t243.size : Int) then (none) else (if 0 ≤ (t243.size : Int) then (if (t243.size : Int) ≤ (t240.size : Int) then (if (t240.extract 0 ((t243.size : Int) : Int).toNat).toList = t243.toList then (if (t243.size : Int) < (t240.size : Int) then (if (bt t240 (t243.size : Int)) = 32 then (caesuralaw27_NoteLines.l0 k3 l0 t224 t226 t237 t238 (wrap64 (x11_3 + 1))) else (none)) else (none)) else (none)) else (none)) else (none))) else (none)) = some r := by rw [if_neg (show ¬ (false = true) by decide)] at H; exact H
                              clear H
                              have H := H1
                              clear H1
                              by_cases c46 : t241 = 0
                              · rw [if_pos c46] at H
                                have c46b0 : (t241 == 0) = true := beq_iff_eq.mpr c46
                                have c46b1 : (t241 != 0) = false := bne_eq_false_iff_eq.mpr c46
                                clear c46
                                by_cases c47 : (t240.size : Int) ≤ (t243.size : Int)
                                · rw [if_pos c47] at H
                                  exact absurd H (by simp)
                                · rw [if_neg c47] at H
                                  have c47b0 : decide ((t240.size : Int) ≤ (t243.size : Int)) = false := decide_eq_false c47
                                  have c47b1 : decide (t240.size ≤ t243.size) = false := decide_eq_false (fun h => c47 (Int.ofNat_le.mpr h))
                                  clear c47
                                  by_cases c48 : 0 ≤ (t243.size : Int)
                                  · rw [if_pos c48] at H
                                    have c48b0 := eq_true c48
                                    have c48b1 : decide (0 ≤ (t243.size : Int)) = true := decide_eq_true c48
                                    clear c48
                                    by_cases c49 : (t243.size : Int) ≤ (t240.size : Int)
                                    · rw [if_pos c49] at H
                                      have c49b0 := eq_true c49
                                      have c49b1 : decide ((t243.size : Int) ≤ (t240.size : Int)) = true := decide_eq_true c49
                                      clear c49
                                      by_cases c50 : (t240.extract 0 ((t243.size : Int) : Int).toNat).toList = t243.toList
                                      · rw [if_pos c50] at H
                                        have c50b0 : ((t240.extract 0 ((t243.size : Int) : Int).toNat).toList == t243.toList) = true := beq_iff_eq.mpr c50
                                        have c50b1 : ((t240.extract 0 ((t243.size : Int) : Int).toNat).toList != t243.toList) = false := bne_eq_false_iff_eq.mpr c50
                                        clear c50
                                        by_cases c51 : (t243.size : Int) < (t240.size : Int)
                                        · rw [if_pos c51] at H
                                          have c51b0 : decide ((t243.size : Int) < (t240.size : Int)) = true := decide_eq_true c51
                                          have c51b1 : decide (t243.size < t240.size) = true := decide_eq_true (Int.ofNat_lt.mp c51)
                                          clear c51
                                          by_cases c53 : (bt t240 (t243.size : Int)) = 32
                                          · rw [if_pos c53] at H
                                            have c53b0 : ((bt t240 (t243.size : Int)) == 32) = true := beq_iff_eq.mpr c53
                                            have c53b1 : ((bt t240 (t243.size : Int)) != 32) = false := bne_eq_false_iff_eq.mpr c53
                                            clear c53; have k3_ : (t240.extract 0 t243.size).toList = t243.toList := (by have h_ := beq_iff_eq.1 c50b0; rw [Int.toNat_natCast] at h_; exact h_); have k4_ : ∀ h, (((t240[t243.size]'h).toNat : Int) != 32) = false := (fun h => by have h_ := bt_at t240 (t243.size : Int) h; rw [show (((t240[t243.size]'h).toNat : Int)) = bt t240 (t243.size : Int) from h_]; exact c53b1); have K3_ := Lib.hid k3_; have K4_ := Lib.hid k4_; clear k3_ k4_
                                            have H' := Aside0.mk H
                                            clear H
                                            have p239 : 0 ≤ (x11_3 : Int) := of_decide_eq_true (by first | (with_reducible assumption) | assumption)
                                            have q239 : x11_3 < (l0.length : Int) := of_decide_eq_true (by first | (with_reducible assumption) | assumption)
                                            obtain ⟨ad239, A239_5, c239_5, e239, hx239_0, hx239_1, hx239_2, hx239_3, hx239_4, hx239_5, hx239_6, hl239_5, hi239_5⟩ := at_T32 (Kd.V_reads' HO_0.out).2.2 x11_3 p239 q239
                                            (try rw [← Nbq33.out] at hx239_4)
                                            cases e239
                                            obtain ⟨ce239, hce239, hMe239, hcc239⟩ := Kd.V_get HO_0.out z32 x11_3 p239 (by first | exact q239 | exact of_decide_eq_true (by first | (with_reducible assumption) | assumption) | (have e_ := (Kd.V_reads' HO_0.out).1; omega))
                                            obtain ⟨ua239_5, uc239_5, rfl, ul239_5, ge239_5⟩ := k32_openF hMe239
                                            have hv239_5 := hcc239 5 _ rfl
                                            rw [add_field _ _ 5 (by omega)] at hv239_5
                                            replace hv239_5 := Option.some.inj (hv239_5.symm.trans hx239_5)
                                            injection hv239_5 with hva_ hvn_ hvc_
                                            rw [hva_] at ge239_5
                                            rw [hvc_] at ul239_5
                                            have HL239_5 := Aside0.mk (show Kd.V (Kd.int .i64) 3 _ w.heap.size _ _ ((rd_T32 l0 x11_3).f5.f0) from Kd.V_mk ul239_5 ge239_5)
                                            clear hva_ hvn_ hvc_ ge239_5 ul239_5
                                            clear hcc239 hce239
                                            have HR239_5 := Aside0.mk hi239_5
                                            have HC239_5 := Aside0.mk hl239_5
                                            clear hi239_5 hl239_5
                                            replace p239 := eq_true p239
                                            replace q239 := eq_true q239
                                            go_wp2_with (first | ((with_reducible refine gate_callee (f := 11) rfl ?_); refine goesL_ (some 73) rfl rfl Tryz.func11 (by kernel_rfl) rfl #[.agg #[.int .i64 ((rd_T32 l0 x11_3).f0), .int .i64 ((rd_T32 l0 x11_3).f1), .int .i64 ((rd_T32 l0 x11_3).f2), .string ((rd_T32 l0 x11_3).f3), .bool false, .slice A239_5 ((rd_T32 l0 x11_3).f5.f0).length c239_5, .int .i64 ((rd_T32 l0 x11_3).f5.f1)]] rfl (by (try simp only [List.map_toArray, List.map_cons, List.map_nil]); first | done | rfl | (simp only [List.length_drop, List.length_take]; rfl)) ?_; (with_reducible refine (note_Line.calls (hG := ?gok) ((rd_T32 l0 x11_3).f0) ((rd_T32 l0 x11_3).f1) ((rd_T32 l0 x11_3).f2) ((rd_T32 l0 x11_3).f3) false _ _ ((rd_T32 l0 x11_3).f5.f0) ((rd_T32 l0 x11_3).f5.f1) t240 t241 _ ?side1 ?side2 A31.out).mono ?_); (case gok => exact GOK.step hG (by repeat (first | (with_reducible first | exact HB.out | exact Below.refl _ _ | apply below_alloc | apply pw_below_drewN | apply below_drew1) | exact HB.out))); (case side1 => repeat (first | exact (by repeat (first | (with_reducible exact HR239_5.out) | (with_reducible refine Kd.C_alloc ?_ _) | (with_reducible refine Kd.C_drewN ?_ _) | (with_reducible refine Kd.C_drew ?_) | exact HR239_5.out)) | (with_reducible refine Kd.C_alloc ?_ _) | (with_reducible refine Kd.C_drewN ?_ _) | (with_reducible refine Kd.C_drew ?_))); (case side2 => exact HC239_5.out); rintro e w54 ⟨rfl, hb⟩; refine ⟨_, rfl, ?_⟩; have n0_ := Aside0.mk (Kd.V_below (by (with_reducible repeat (first | apply Kd.V_alloc | apply Kd.V_drewN | apply Kd.V_drew)); exact HO_0.out) hb); have n1_ := Aside0.mk (Kd.V_below (by (with_reducible repeat (first | apply Kd.V_alloc | apply Kd.V_drewN | apply Kd.V_drew)); exact HL239_5.out) hb); have n2_ := Aside0.mk (Kd.C_below (by repeat (first | (with_reducible exact HR239_5.out) | (with_reducible refine Kd.C_alloc ?_ _) | (with_reducible refine Kd.C_drewN ?_ _) | (with_reducible refine Kd.C_drew ?_) | exact HR239_5.out)) hb); have n3_ := Aside0.mk (below_step (by repeat (first | (with_reducible first | exact HB.out | apply below_alloc | apply pw_below_drewN | apply below_drew1) | exact HB.out)) hb); clear HO_0; clear HL239_5; clear HR239_5; clear HB; have HO_0 := n0_; have HL239_5 := n1_; have HR239_5 := n2_; have HB := n3_; clear n0_ n1_ n2_ n3_; (try clear hb); (try clear hb2); (try clear hk); (try clear hi); have p242 : 0 ≤ (x11_3 : Int) := of_decide_eq_true (by first | (with_reducible assumption) | assumption); have q242 : x11_3 < (l0.length : Int) := of_decide_eq_true (by first | (with_reducible assumption) | assumption); obtain ⟨ad242, A242_5, c242_5, e242, hx242_0, hx242_1, hx242_2, hx242_3, hx242_4, hx242_5, hx242_6, hl242_5, hi242_5⟩ := at_T32 (Kd.V_reads' HO_0.out).2.2 x11_3 p242 q242; (try rw [← Nbq33.out] at hx242_4); obtain rfl : ad239 = ad242 := (by injection e242); obtain ⟨ce242, hce242, hMe242, hcc242⟩ := Kd.V_get HO_0.out z32 x11_3 p242 (by first | exact q242 | exact of_decide_eq_true (by first | (with_reducible assumption) | assumption) | (have e_ := (Kd.V_reads' HO_0.out).1; omega)); obtain ⟨ua242_5, uc242_5, rfl, ul242_5, ge242_5⟩ := k32_openF hMe242; have hv242_5 := hcc242 5 _ rfl; rw [add_field _ _ 5 (by omega)] at hv242_5; replace hv242_5 := Option.some.inj (hv242_5.symm.trans hx242_5); injection hv242_5 with hva_ hvn_ hvc_; rw [hva_] at ge242_5; rw [hvc_] at ul242_5; have HL242_5 := Aside0.mk (show Kd.V (Kd.int .i64) 3 _ w.heap.size _ _ ((rd_T32 l0 x11_3).f5.f0) from Kd.V_mk ul242_5 ge242_5); clear hva_ hvn_ hvc_ ge242_5 ul242_5; clear hcc242 hce242; have HR242_5 := Aside0.mk hi242_5; have HC242_5 := Aside0.mk hl242_5; clear hi242_5 hl242_5; replace p242 := eq_true p242; replace q242 := eq_true q242) | ((with_reducible refine gate_callee (f := 19) rfl ?_); refine goesL_ (some 81) rfl rfl Tryz.func19 (by kernel_rfl) rfl #[.int .i64 ((rd_T32 l0 x11_3).f0)] rfl (by (try simp only [List.map_toArray, List.map_cons, List.map_nil]); first | done | rfl | (simp only [List.length_drop, List.length_take]; rfl)) ?_; (with_reducible refine (note_Word.calls ((rd_T32 l0 x11_3).f0) t243 _ A32.out).mono ?_); rintro e w55 ⟨rfl, hb⟩; refine ⟨_, rfl, ?_⟩; have n0_ := Aside0.mk (Kd.V_below (by (with_reducible repeat (first | apply Kd.V_alloc | apply Kd.V_drewN | apply Kd.V_drew)); exact HO_0.out) hb); have n1_ := Aside0.mk (Kd.V_below (by (with_reducible repeat (first | apply Kd.V_alloc | apply Kd.V_drewN | apply Kd.V_drew)); exact HL239_5.out) hb); have n2_ := Aside0.mk (Kd.V_below (by (with_reducible repeat (first | apply Kd.V_alloc | apply Kd.V_drewN | apply Kd.V_drew)); exact HL242_5.out) hb); have n3_ := Aside0.mk (Kd.C_below (by repeat (first | (with_reducible exact HR239_5.out) | (with_reducible refine Kd.C_alloc ?_ _) | (with_reducible refine Kd.C_drewN ?_ _) | (with_reducible refine Kd.C_drew ?_) | exact HR239_5.out)) hb); have n4_ := Aside0.mk (Kd.C_below (by repeat (first | (with_reducible exact HR242_5.out) | (with_reducible refine Kd.C_alloc ?_ _) | (with_reducible refine Kd.C_drewN ?_ _) | (with_reducible refine Kd.C_drew ?_) | exact HR242_5.out)) hb); have n5_ := Aside0.mk (below_step (by repeat (first | (with_reducible first | exact HB.out | apply below_alloc | apply pw_below_drewN | apply below_drew1) | exact HB.out)) hb); clear HO_0; clear HL239_5; clear HL242_5; clear HR239_5; clear HR242_5; clear HB; have HO_0 := n0_; have HL239_5 := n1_; have HL242_5 := n2_; have HR239_5 := n3_; have HR242_5 := n4_; have HB := n5_; clear n0_ n1_ n2_ n3_ n4_ n5_; (try clear hb); (try clear hb2); (try clear hk); (try clear hi); have p244 : 0 ≤ (x11_3 : Int) := of_decide_eq_true (by first | (with_reducible assumption) | assumption); have q244 : x11_3 < (l0.length : Int) := of_decide_eq_true (by first | (with_reducible assumption) | assumption); obtain ⟨ad244, A244_5, c244_5, e244, hx244_0, hx244_1, hx244_2, hx244_3, hx244_4, hx244_5, hx244_6, hl244_5, hi244_5⟩ := at_T32 (Kd.V_reads' HO_0.out).2.2 x11_3 p244 q244; (try rw [← Nbq33.out] at hx244_4); obtain rfl : ad239 = ad244 := (by injection e244); obtain ⟨ce244, hce244, hMe244, hcc244⟩ := Kd.V_get HO_0.out z32 x11_3 p244 (by first | exact q244 | exact of_decide_eq_true (by first | (with_reducible assumption) | assumption) | (have e_ := (Kd.V_reads' HO_0.out).1; omega)); obtain ⟨ua244_5, uc244_5, rfl, ul244_5, ge244_5⟩ := k32_openF hMe244; have hv244_5 := hcc244 5 _ rfl; rw [add_field _ _ 5 (by omega)] at hv244_5; replace hv244_5 := Option.some.inj (hv244_5.symm.trans hx244_5); injection hv244_5 with hva_ hvn_ hvc_; rw [hva_] at ge244_5; rw [hvc_] at ul244_5; have HL244_5 := Aside0.mk (show Kd.V (Kd.int .i64) 3 _ w.heap.size _ _ ((rd_T32 l0 x11_3).f5.f0) from Kd.V_mk ul244_5 ge244_5); clear hva_ hvn_ hvc_ ge244_5 ul244_5; clear hcc244 hce244; have HR244_5 := Aside0.mk hi244_5; have HC244_5 := Aside0.mk hl244_5; clear hi244_5 hl244_5; replace p244 := eq_true p244; replace q244 := eq_true q244; have p52 : 0 ≤ ((t243.size : Int) : Int) := of_decide_eq_true (by first | (with_reducible assumption) | assumption); have q52 : (t243.size : Int) < (t240.size : Int) := of_decide_eq_true (by first | (with_reducible assumption) | assumption); have hx52 := bt_at t240 (t243.size : Int); replace p52 := eq_true p52; replace q52 := eq_true q52))
                                            (all_goals (first | (exfalso; rename_i hz_; first | exact hz_ K3_.out | (have h_ := K1_.out; omega) | (rw [K4_.out] at hz_; first | done | (cases hz_; done)) | (rcases hz_ with hz_ | hz_; (have h_ := K1_.out; omega); rw [K4_.out] at hz_; first | done | (cases hz_; done))) | skip)); go_roundg k3
                                            case measure => have := HJ4.out; have := HJ16.out; have := HK3.out; omega
                                            case rel => exact ⟨(wrap64 (x11_3 + 1)), (by first | rfl | (simp; done) | (simp [*]; done)), H', ⟨by have := HJ4.out; have := HJ16.out; have := HK3.out; omega⟩, ⟨by (with_reducible repeat (first | apply Kd.V_alloc | apply Kd.V_drewN | apply Kd.V_drew)); exact HO_0.out⟩, ⟨by repeat (first | (with_reducible first | exact HB.out | apply below_alloc | apply pw_below_drewN | apply below_drew1) | exact HB.out)⟩⟩
                                          · rw [if_neg c53] at H
                                            exact absurd H (by simp)
                                        · rw [if_neg c51] at H
                                          exact absurd H (by simp)
                                      · rw [if_neg c50] at H
                                        exact absurd H (by simp)
                                    · rw [if_neg c49] at H
                                      exact absurd H (by simp)
                                  · rw [if_neg c48] at H
                                    exact absurd H (by simp)
                              · rw [if_neg c46] at H
                                exact absurd H (by simp)
                          · rw [if_neg c30] at H
                            exact absurd H (by simp)
                        · rw [if_neg c29] at H
                          have c29b0 : decide (x11_3 < (l0.length : Int)) = false := decide_eq_false c29
                          clear c29
                          by_cases c56 : t238 = 0
                          · rw [if_pos c56] at H
                            have c56b0 : (t238 == 0) = true := beq_iff_eq.mpr c56
                            have c56b1 : (t238 != 0) = false := bne_eq_false_iff_eq.mpr c56
                            clear c56
                            by_cases c57 : t224.size + t226.size ≤ 9223372036854775807
                            · rw [if_pos c57] at H
                              have c57b0 := eq_true c57
                              have c57b1 : decide (t224.size + t226.size ≤ 9223372036854775807) = true := decide_eq_true c57
                              try have c57b2 : (9223372036854775807 < t224.size + t226.size) = False := eq_false (Nat.not_lt.2 c57)
                              obtain rfl := Option.some.inj H
                              go_wp2
                              go_ret
                              exact ⟨by first | rfl | (simp [errW_none, errW_some] <;> rfl) | (simp [*, errW_none, errW_some] <;> rfl), by repeat (first | (with_reducible first | exact HB.out | apply below_alloc | apply pw_below_drewN | apply below_drew1) | exact HB.out)⟩
                            · rw [if_neg c57] at H
                              exact absurd H (by simp)
                          · rw [if_neg c56] at H
                            exact absurd H (by simp)
            · rw [if_neg c15] at H
              exact absurd H (by simp)
          · rw [if_neg c14] at H
            exact absurd H (by simp)
  · replace c4 := Bool.eq_false_iff.mpr c4
    subst c4
    have H1 : (none) = some r := by rw [if_neg (show ¬ (false = true) by decide)] at H; exact H
    clear H
    have H := H1
    clear H1
    exact absurd H (by simp)
end Go.Proofs.YtlenlhnpmblicaaGreatDoor.XA
end
section
set_option linter.unusedVariables false
set_option linter.unusedSimpArgs false
namespace Go.Proofs.YtlenlhnpmblicaaGreatDoor.XA
set_option linter.unusedSimpArgs false
set_option linter.unusedVariables false
open Go.RowKit
open Go.Proofs.YtlenlhnpmblicaaGreatDoorW.PrintWords Go.Proofs.YtlenlhnpmblicaaGreatDoorW.PrintLast Go.Proofs.YtlenlhnpmblicaaGreatDoorW.PrintMore
theorem dlen (s : ByteArray) : s.data.toList.length = s.size := by rw [Array.length_toList]; rfl
theorem begins3 (s W : ByteArray) (r : List UInt8) (h : s.data.toList = W.data.toList ++ 32 :: r) : W.size < s.size ∧ (s.extract 0 W.size).toList = W.toList ∧ bt s (W.size : Int) = 32 := by
  have hs : W.size < s.size := by
    rw [← dlen s, ← dlen W, h, List.length_append, List.length_cons]; omega
  refine ⟨hs, ?_, ?_⟩
  · rw [Lib.extract_toList, h, ByteArray.toList_eq, List.drop_zero, Nat.sub_zero, ← dlen W, List.take_left]
  · have h1 := bt_at s (W.size : Int) hs
    rw [← h1]
    have h2 : s.data.toList[W.size]? = some 32 := by
      rw [h, ← dlen W, List.getElem?_append_right (Nat.le_refl _), Nat.sub_self]
      rfl
    have h3 : s[(W.size : Int).toNat]'hs = 32 := by
      have h4 : s.data[W.size]? = some 32 := by rw [← Array.getElem?_toList]; exact h2
      exact (Array.getElem?_eq_some_iff.1 h4).2
    rw [h3]
    rfl
theorem lineX_some (x : S32) (h : okD x) : ∃ s, lineX x = some s ∧ s.length ≤ 100001 := by
  obtain ⟨s, sh, h1, _, h2, _⟩ := line_text x h
  refine ⟨s.data.toList ++ [10], by unfold lineX; rw [h1]; rfl, ?_⟩
  rw [List.length_append, dlen]
  show s.size + 1 ≤ _
  omega
theorem shortX_of : ∀ l : List S32, (∀ x ∈ l, okD x) → shortX l = true := fun l h => by
  unfold shortX
  rw [List.all_eq_true]
  intro x hx
  obtain ⟨s, h1, h2⟩ := lineX_some x (h x hx)
  rw [h1, Bool.and_eq_true]
  exact ⟨decide_eq_true (by have := (h x hx).1; omega), decide_eq_true (by omega)⟩
def linesT (l : List S32) : List UInt8 := l.flatMap fun x => (lineX x).getD []
theorem linesT_len : ∀ l : List S32, (∀ x ∈ l, okD x) → (linesT l).length ≤ 100001 * l.length
  | [], _ => by simp [linesT]
  | x :: r, h => by
    obtain ⟨s, h1, h2⟩ := lineX_some x (h x List.mem_cons_self)
    have := linesT_len r (fun y hy => h y (List.mem_cons_of_mem _ hy))
    unfold linesT at this ⊢
    rw [List.flatMap_cons, h1, List.length_append, List.length_cons]
    show s.length + _ ≤ _
    omega
theorem text_f (l : List S32) (h : ∀ x ∈ l, okD x) (hl : l.length ≤ 1000) : note_Text.f l = some (if l.any wrongB = true then (⟨#[]⟩, 1) else (⟨(linesT l).toArray⟩, 0)) := by
  unfold note_Text.f
  rw [if_pos (List.all_eq_true.2 fun x hx => decide_eq_true (by have := (h x hx).1; omega))]
  by_cases hw : l.any wrongB = true
  · rw [if_pos hw, if_pos hw]
  · rw [if_neg hw, if_neg hw, if_neg (by omega), if_pos (shortX_of l h), linesX_done l (shortX_of l h)]
    rfl
theorem tail_ne (dk di dj : Int) (dn sh : ByteArray) (hk : kindK dk = true) : ∃ r, tailT (tailL dk di dj dn sh) = 32 :: r := by
  have h7 : 1 ≤ dk ∧ dk ≤ 7 := by simpa [kindK] using hk
  rcases kind_cases dk h7.1 h7.2 with rfl | rfl | rfl | rfl | rfl | rfl | rfl <;> exact ⟨_, rfl⟩
theorem right_kind (x : S32) (h : wrongB x = false) : kindK x.f0 = true ∧ rightB x.f0 x.f1 x.f2 x.f3 x.f5.f0 x.f5.f1 = true := by
  have h1 : rightB x.f0 x.f1 x.f2 x.f3 x.f5.f0 x.f5.f1 = true := by
    unfold wrongB at h
    simpa using h
  refine ⟨?_, h1⟩
  unfold rightB at h1
  simp only [Bool.and_eq_true] at h1
  exact h1.1.1.1.1.1.1
theorem Line_right (x : S32) (h : okD x) (hw : wrongB x = false) (s : ByteArray) (hs : note_line.f x.f0 x.f1 x.f2 x.f3 x.f4 x.f5.f0 x.f5.f1 = some s) : note_Line.f x.f0 x.f1 x.f2 x.f3 x.f4 x.f5.f0 x.f5.f1 = some (s, 0) := by
  unfold note_Line.f note_Right.f
  rw [if_pos (by have := h.1; omega), Option.bind_some, (right_kind x hw).2, if_pos rfl, hs]
  rfl
theorem lines_l (l : List S32) (hl : l.length ≤ 1000) (h : ∀ x ∈ l, okD x) (hw : ∀ x ∈ l, wrongB x = false) (x5 x7 x9 : ByteArray) (hz : x5.size + x7.size ≤ 9223372036854775807) (he : x9.toList = (x5 ++ x7).toList) (d : Nat) :
    ∀ (i k : Nat), d + i = l.length → d < k → caesuralaw27_NoteLines.l0 k l x5 x7 x9 0 (i : Int) = some true := by
  induction d with
  | zero =>
    intro i k hd hk
    obtain ⟨k, rfl⟩ : ∃ j, k = j + 1 := ⟨k - 1, by omega⟩
    rw [caesuralaw27_NoteLines.l0, if_neg (by omega), if_pos rfl, if_pos hz]
    congr 1
    exact beq_iff_eq.2 he
  | succ d ih =>
    intro i k hd hk
    obtain ⟨k, rfl⟩ : ∃ j, k = j + 1 := ⟨k - 1, by omega⟩
    have h0 : i < l.length := by omega
    have hm := List.getElem_mem h0
    obtain ⟨x, hx⟩ : ∃ x, l[i] = x := ⟨_, rfl⟩
    rw [hx] at hm
    obtain ⟨s, sh, h1, h2, h3, h4⟩ := line_text x (h x hm)
    obtain ⟨r, hr⟩ := tail_ne x.f0 x.f1 x.f2 x.f3 sh (right_kind x (hw x hm)).1
    rw [hr] at h4
    have hL := Line_right x (h x hm) (hw x hm) s h1
    have hk6 := kindW_len x.f0
    have q1 : (i : Int) < (l.length : Int) := by omega
    have q2 : (0 : Int) ≤ (i : Int) := by omega
    have e2 := w64suc i (by omega)
    have hi := ih (i + 1) k (by omega) (by omega)
    rw [caesuralaw27_NoteLines.l0, if_pos q1, if_pos q2, rdT_getElem l i h0, hx, hL, Option.bind_some]
    unfold note_Word.f
    rw [Option.bind_some]
    rw [dlen] at hk6
    dsimp only
    cases hb : x.f4 with
    | true =>
      rw [hb, if_pos rfl] at h4
      have hq : s.data.toList = ((⟨#[97, 108, 108, 111, 119, 101, 100, 32]⟩ : ByteArray) ++ kindW x.f0).data.toList ++ 32 :: r := by
        rw [h4, ByteArray.data_append, Array.toList_append, List.append_assoc]
      obtain ⟨a1, a2, a3⟩ := begins3 s _ r hq
      rw [if_pos rfl, if_pos (by omega), if_pos rfl, if_neg (by omega), if_pos (by omega), if_pos (by omega), if_pos (by rw [Int.toNat_natCast]; exact a2), if_pos (by omega), if_pos a3, e2]
      exact hi
    | false =>
      rw [hb, if_neg (by decide), List.nil_append] at h4
      obtain ⟨a1, a2, a3⟩ := begins3 s _ r h4
      rw [if_neg (by decide), if_pos rfl, if_neg (by omega), if_pos (by omega), if_pos (by omega), if_pos (by rw [Int.toNat_natCast]; exact a2), if_pos (by omega), if_pos a3, e2]
      exact hi
theorem okD_of (l : List S32) (hw : ∀ x ∈ l, wfD x) (m : Nat) (hm : m ≤ 5000) (ht : ¬ m < l.length + totD l) : ∀ x ∈ l, okD x := fun x hx => by
  have h1 := tot_mem l x hx
  have h2 := (hw x hx).2.2.2.2.2.2
  have h3 : -9223372036854775808 ≤ x.f5.f1 ∧ x.f5.f1 ≤ 9223372036854775807 := by
    have := h2
    simp [Lit.wf, IntKind.min, IntKind.max, IntKind.signed, IntKind.bits] at this
    omega
  exact ⟨by omega, by omega, h3.1, h3.2⟩
theorem noteLines_plain (a b : List S32) (ha : ∀ x ∈ a, wfD x) (la : a.length * 80 ≤ reachBytes) (hb : ∀ x ∈ b, wfD x) (lb : b.length * 80 ≤ reachBytes) : ∃ k, caesuralaw27_NoteLines.f k a b = some true := by
  have hrb : reachBytes ≤ 1000000000000000 := by decide
  have wa : ∀ x ∈ a, x.f3.size ≤ 1000000000000000 ∧ x.f5.f0.length ≤ 1000000000000000 := fun x hx => ⟨by have := (ha x hx).2.2.2.1; omega, by have := (ha x hx).2.2.2.2.2.1; omega⟩
  have wb : ∀ x ∈ b, x.f3.size ≤ 1000000000000000 ∧ x.f5.f0.length ≤ 1000000000000000 := fun x hx => ⟨by have := (hb x hx).2.2.2.1; omega, by have := (hb x hx).2.2.2.2.2.1; omega⟩
  obtain ⟨k, hk⟩ : ∃ k, a.length + b.length + 2000 = k := ⟨_, rfl⟩
  have ga := great_f 1500 (by decide) a (by omega) wa (k + 2) (by omega)
  have gb := great_f 1500 (by decide) b (by omega) wb (k + 2) (by omega)
  refine ⟨k + 2, ?_⟩
  have jt : caesuralaw27_NoteLines.j0 (k + 2) a b true = some true := by rw [caesuralaw27_NoteLines.j0, if_pos rfl]
  unfold caesuralaw27_NoteLines.f caesuralaw27_alive.f
  rw [Option.bind_some, if_pos rfl]
  have e15 : ((1500 : Nat) : Int) = 1500 := rfl
  rw [e15] at ga gb
  rw [ga, Option.bind_some]
  by_cases c1 : 1500 < a.length + totD a
  · rw [decide_eq_true c1, if_pos rfl]
    exact jt
  rw [decide_eq_false c1, if_neg (by decide), gb, Option.bind_some]
  by_cases c2 : 1500 < b.length + totD b
  · rw [decide_eq_true c2, if_pos rfl]
    exact jt
  rw [decide_eq_false c2, if_neg (by decide)]
  have oa := okD_of a ha 1500 (by decide) c1
  have ob := okD_of b hb 1500 (by decide) c2
  rw [w64add a.length b.length (by omega)]
  by_cases c3 : ((a.length + b.length : Nat) : Int) > 1000
  · rw [decide_eq_true c3]
    exact jt
  rw [decide_eq_false c3]
  have lab : a.length + b.length ≤ 1000 := by omega
  have ta := text_f a oa (by omega)
  have tb := text_f b ob (by omega)
  have tc := text_f (a ++ b) (fun x hx => by rcases List.mem_append.1 hx with h | h <;> first | exact oa x h | exact ob x h) (by rw [List.length_append]; omega)
  rw [caesuralaw27_NoteLines.j0, if_neg (by decide), ta, Option.bind_some, tb, Option.bind_some, Option.bind_some, if_pos (by simp; omega), Option.bind_some, List.nil_append, if_pos (by omega), tc, Option.bind_some, List.any_append]
  have e0 : some ((⟨#[]⟩ : ByteArray).toList == []) = some true := by rw [ByteArray.toList_eq]; rfl
  by_cases wa : a.any wrongB = true
  · have hor : (a.any wrongB || b.any wrongB) = true := by rw [wa]; rfl
    rw [if_pos wa, if_pos hor, if_neg (show ¬ ((⟨#[]⟩ : ByteArray), (1 : Int)).2 = 0 by decide)]
    show caesuralaw27_NoteLines.j1 (k + 1) a _ _ _ _ true = some true
    rw [caesuralaw27_NoteLines.j1, if_pos rfl, if_pos rfl]
    exact e0
  · rw [if_neg wa]
    have wa' : a.any wrongB = false := by simpa using wa
    rw [show ((⟨(linesT a).toArray⟩, (0 : Int)) : ByteArray × Int).2 = 0 from rfl, if_pos rfl]
    by_cases wb : b.any wrongB = true
    · rw [if_pos wb, if_pos (by rw [wb, Bool.or_true])]
      show caesuralaw27_NoteLines.j1 (k + 1) a _ _ _ _ true = some true
      rw [caesuralaw27_NoteLines.j1, if_pos rfl, if_pos rfl]
      exact e0
    · rw [if_neg wb, if_neg (by rw [wa']; simpa using wb)]
      show caesuralaw27_NoteLines.j1 (k + 1) a _ _ _ _ false = some true
      rw [caesuralaw27_NoteLines.j1, if_neg (by decide)]
      have l1 := linesT_len a oa
      have l2 := linesT_len b ob
      refine lines_l a (by omega) oa (fun x hx => by
        have := List.any_eq_false.1 wa' x hx
        simpa using this) _ _ _ ?_ ?_ a.length 0 k rfl (by omega)
      · show (linesT a).toArray.size + (linesT b).toArray.size ≤ _
        rw [List.size_toArray, List.size_toArray]
        omega
      · rw [ByteArray.toList_eq, ByteArray.toList_eq, ByteArray.data_append, Array.toList_append]
        show (linesT (a ++ b)).toArray.toList = (linesT a).toArray.toList ++ (linesT b).toArray.toList
        rw [List.toList_toArray, List.toList_toArray, List.toList_toArray]
        unfold linesT
        rw [List.flatMap_append]
theorem heap_diag : Kd.Heap k32 := Kd.heap_iso _ (Kd.heap_pair (Kd.heap_int _) (Kd.heap_pair (Kd.heap_int _) (Kd.heap_pair (Kd.heap_int _) (Kd.heap_pair Kd.heap_string (Kd.heap_pair Kd.heap_bool (Kd.heap_iso _ (Kd.heap_pair (Kd.heap_slice _ (Kd.heap_int _)) (Kd.heap_int _))))))))
theorem noteLines_calls (x0 x1 : List S32) (A0 : Option Addr) (c0 : Nat) (A1 : Option Addr) (c1 : Nat) (W : World) (hG : GOK W) (g0 : Kd.C k32 W A0 x0.length x0) (l0 : x0.length ≤ c0) (g1 : Kd.C k32 W A1 x1.length x1) (l1 : x1.length ≤ c1)
    (w0 : (∀ q, q ∈ x0 → wfD q) ∧ x0.length * 80 ≤ reachBytes) (w1 : (∀ q, q ∈ x1 → wfD q) ∧ x1.length * 80 ≤ reachBytes) :
    Calls Tryz.prog 7 #[.slice A0 x0.length c0, .slice A1 x1.length c1] W fun e w' => e = .returned (.bool true) ∧ Below W.heap.size W w' := by
  obtain ⟨k, hk⟩ := noteLines_plain x0 x1 w0.1 w0.2 w1.1 w1.2
  exact caesuralaw27_NoteLines.calls k (fun k => k < W.heap.size) A0 c0 x0 (fun k => k < W.heap.size) A1 c1 x1 true W hG (Kd.V_mk l0 (Kd.C_F heap_diag g0)) (Kd.V_mk l1 (Kd.C_F heap_diag g1)) hk
end Go.Proofs.YtlenlhnpmblicaaGreatDoor.XA
end
section
set_option linter.unusedVariables false
set_option linter.unusedSimpArgs false
namespace Go.Proofs.YtlenlhnpmblicaaGreatDoor.XA.noteLines
open Go.ChangeShapes Go.WideShapes Go.ChangeAt Go.RowKit
open Go.ChangeMaps (open_string shut_string)
theorem reads (os : Os) {H : Type} (enc : TypeId × Value → H) : ∃ places, DataW.whole enc Tryz.prog ((laidWorld os).forCall (fun _ _ => 0) ⟨#[], #[.slice none 0 0, .slice none 0 0], []⟩).memory Tryz.f7.params.toList Rows.noteLinesSpec.vars false (#[.slice none 0 0, .slice none 0 0] : Array Value).toList 8 = some ([.nil, .nil], [], places) :=
  ⟨[], by kernel_rfl⟩
set_option maxRecDepth 100000 in
theorem lifted (os : Os) (started : os.Started) (H : Type) (enc : TypeId × Value → H) (F : Stop.Interp) :
    ReturnsInHanded {} Tryz.checked os 7 .any ((OpenSpec.ofChange Rows.noteLinesSpec).preRow enc Tryz.prog Tryz.f7 Rows.noteLinesRow.domain false Rows.noteLinesRow.laid) (((OpenSpec.ofChange Rows.noteLinesSpec).at F).post enc Tryz.prog Tryz.f7 false true false false) := by
  obtain ⟨places, hx⟩ := reads os enc
  refine returnsInHanded_of_row (C := Tryz.checked) (s := OpenSpec.ofChange Rows.noteLinesSpec) own started (by kernel_rfl) Tryz.func7
    (witness_row_atRef (enc := enc) (C := Tryz.checked) false (laidWorld os) #[.slice none 0 0, .slice none 0 0] rfl (by kernel_rfl) (by kernel_rfl) (by kernel_rfl)
      (OpenSpec.preRow_of_cond 8 hx (by kernel_rfl) (fun k hk => by cases hk) (by kernel_rfl) (laid_met os _))) ?_
  intro W base args ds gs before hval0 hW _ _ hz0 hL hS _
  have hG : GOK W := gok_of_laid hL hS (size_of_shaped hS)
  have hval : ∀ (j : Nat) t v, Tryz.f7.params[j]? = some t → args[j]? = some v → Value.okWide Tryz.prog W .any base t v := hval0
  have hW' := hW
  obtain ⟨p, q, hA0, hV, rfl, _, _⟩ := hW
  have hA : DataW.TrodAll enc Tryz.prog W 0 (fun _ => true) true Tryz.f7.params.toList args.toList ds p := hA0
  rw [Tryz.params7] at hA hval
  obtain ⟨v0, vs0, d0, ds0, p0, q0, hargs, rfl, rfl, h0, r0⟩ := trodAll_cons hA
  obtain ⟨v1, vs1, d1, ds1, p1, q1, rfl, rfl, rfl, h1, r1⟩ := trodAll_cons r0
  have hz : XO.fit (DataW.weightsEach Tryz.prog (Tryz.f7.params.toList ++ (OpenSpec.ofChange Rows.noteLinesSpec).bare.plain.varTypes Tryz.prog) ((d0 :: d1 :: ds1) ++ gs)) := hz0
  rw [Tryz.params7] at hz
  obtain ⟨rfl, rfl, rfl⟩ := trodAll_nil r1
  obtain rfl : args = #[v0, v1] := by cases args; simp_all
  obtain ⟨rfl, rfl⟩ := trodVars_none hV
  have z0 := (XO.fit_app (show XO.fit (d0.weights Tryz.prog 22 ++ _) from hz)).1
  have hz := (XO.fit_app (show XO.fit (d0.weights Tryz.prog 22 ++ _) from hz)).2
  have lt0 : ∀ x ∈ p0, x.block < W.heap.size := by obtain ⟨m, hm⟩ := h0; exact DataW.trod_lt m _ _ _ hm
  obtain ⟨x0, A0, c0, rfl, l0, g0, w0⟩ := open_diags (hval 0 22 v0 rfl rfl) h0 z0
  have z1 := (XO.fit_app (show XO.fit (d1.weights Tryz.prog 22 ++ _) from hz)).1
  have hz := (XO.fit_app (show XO.fit (d1.weights Tryz.prog 22 ++ _) from hz)).2
  have lt1 : ∀ x ∈ p1, x.block < W.heap.size := by obtain ⟨m, hm⟩ := h1; exact DataW.trod_lt m _ _ _ hm
  obtain ⟨x1, A1, c1, rfl, l1, g1, w1⟩ := open_diags (hval 1 22 v1 rfl rfl) h1 z1
  clear hA0 hval0
  refine (noteLines_calls x0 x1 A0 c0 A1 c1 W hG g0 l0 g1 l1 w0 w1).mono ?_
  rintro e W' ⟨rfl, bel⟩
  exact ⟨_, rfl, _, _, _, [], _, [], hW', trodAll_mk1 (shut_bool Tryz.underlying4 _), (trodAll_cons_mk (Below.trod laidOut (by kernel_rfl) (of_decide_eq_true (by kernel_rfl)) h0 bel lt0) (trodAll_cons_mk (Below.trod laidOut (by kernel_rfl) (of_decide_eq_true (by kernel_rfl)) h1 bel lt1) trodAll_mk0)), rfl, bel.frame _, fun h => by cases h⟩
theorem said : Rows.NoteLinesSaid :=
  OpenClaim.holds_of_cond 7 Tryz.f7 rfl rfl rfl rfl rfl rfl rfl ⟨rfl, rfl, rfl, rfl, rfl⟩ rfl rfl rfl rfl rfl (by kernel_rfl) Tryz.func7 (by kernel_rfl)
    (of_decide_eq_true (by kernel_rfl)) (by unfold Func.isWrapper; first | (rw [if_pos (by decide +kernel)]; kernel_rfl) | (rw [if_neg (by decide +kernel)]; exact ⟨rfl, rfl⟩))
    (fun os started H enc _ F => by rw [OpenClaim.pre_eq_preRow]; exact lifted os started H enc F)
theorem plain (f : FuncId) (fn : Func) (hf : Tryz.pinned.checked.prog.funcNamed "caesura/caesuralaw27.NoteLines" = some f) (hfn : Tryz.pinned.checked.prog.funcs[f]? = some fn) :
    true = Tryz.pinned.checked.prog.looks [] ∧ ∀ (j : Nat) t, fn.params[j]? = some t → Tryz.pinned.checked.prog.wantsStandIn t = false := by
  obtain rfl : f = 7 := Option.some.inj ((show Tryz.prog.funcNamed "caesura/caesuralaw27.NoteLines" = some 7 by kernel_rfl).symm.trans hf) |>.symm
  obtain rfl : fn = Tryz.f7 := (Option.some.inj (Tryz.func7.symm.trans hfn)).symm
  refine ⟨by kernel_rfl, fun j t ht => ?_⟩
  rw [Tryz.params7] at ht
  have hm : t ∈ (#[22, 22] : Array TypeId) := Array.mem_of_getElem? ht
  simp only [List.mem_toArray, List.mem_cons, List.not_mem_nil, or_false] at hm
  rcases hm with rfl | rfl
  · exact (show Tryz.prog.wantsStandIn 22 = false by kernel_rfl)
  · exact (show Tryz.prog.wantsStandIn 22 = false by kernel_rfl)
theorem card : Rows.NoteLinesCardSaid :=
  Claim7.holds_tied_plain_at .later [] _ _ _ _ said (fun _ h => by cases h) (by kernel_rfl) (fun _ h => by cases h) noteLines_row_tie rfl ⟨rfl, rfl⟩ (by kernel_rfl) rfl plain (by kernel_rfl)
end Go.Proofs.YtlenlhnpmblicaaGreatDoor.XA.noteLines
namespace Go.Proofs.YtlenlhnpmblicaaGreatDoor
theorem noteLines_card : Rows.NoteLinesCardSaid := XA.noteLines.card
end Go.Proofs.YtlenlhnpmblicaaGreatDoor
end
